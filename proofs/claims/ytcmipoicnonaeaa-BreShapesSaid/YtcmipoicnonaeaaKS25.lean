/- Texts of this claim, 25 of 29: F16. -/
import Derived.Laws.Tables
import Derived.Laws.CopyOwn
import Derived.Test.YtcmipoicnonaeaaKS22
import Derived.Test.YtcmipoicnonaeaaKS24
section
namespace Go.Proofs.Ytcmipoicnonaeaa.F
open Go.RowKit Go.Proofs.YtcmipoicnonaeaaW.PrintWords Go.Proofs.YtcmipoicnonaeaaW.PrintLast Go.Proofs.YtcmipoicnonaeaaW.PrintMore
set_option linter.unusedVariables false
set_option linter.unusedSimpArgs false
attribute [local go_sem high] eqA24
theorem qgy {P : Program} {a : Act} {w : World} {o : Oper} (ty : TypeId) (x y : Operand) (ho : o.op = .store ty x y) (g : Nat) (cells : Array Value) (hx : a.eval x = .pointer (some ⟨g, 0, none⟩)) (hy : a.eval y = .agg cells)
  (t : TypeId) (old : Array Value) (hg : w.heap[g]? = some (.cells old t (0, 0))) (hi : (P.info? ty).map (·.size) = some cells.size) (hold : old.size = cells.size) (h1 : cells.all (·.oneCell') = true) : (execOp a.eval o).run P w = .ok .skip (w.setRow g cells) := by
 unfold execOp
 simp only [ho, hx, hy, Instr.storeAt, Instr.sureAddr, Sem.run_bind, Sem.run_pure, Result.andThen_ok, run_storeVar_row w g t ty old cells hg hi hold h1]
theorem add00_ (ad : Addr) : ad.add 0 = ad := by
 unfold Addr.add
 simp
theorem add0_ (g j : Nat) : (⟨g, 0, none⟩ : Addr).add j = ⟨g, j, none⟩ := by
 unfold Addr.add
 by_cases h : j = 0 <;> simp [h]
def bl (c : List Bool) : Array Value := (c.map Value.bool).toArray
theorem qdf {c : List Bool} (h : c.length = 10) : (bl c).size = 10 := by simp [bl, h]
theorem bl_one (c : List Bool) : (bl c).all (·.oneCell') = true := by
 unfold bl
 rw [List.all_toArray, List.all_eq_true]
 intro v hv
 obtain ⟨b, _, rfl⟩ := List.mem_map.1 hv
 rfl
theorem info_bl {c : List Bool} (h : c.length = 10) : (Try.prog.info? 38).map (·.size) = some (bl c).size := by
 rw [qdf h]
 kernel_rfl
theorem load_bl {w : World} {g : Nat} {c : List Bool} (hc : c.length = 10) (h : w.heap[g]? = some (.cells (bl c) 38 (0, 0))) {a : Act} {o : Oper} (x : Operand) (ho : o.op = .load 38 x) (hx : a.eval x = .pointer (some ⟨g, 0, none⟩)) : (execOp a.eval o).run Try.prog w = .ok (.value (.agg (bl c))) w := by
 refine qez 38 x ho ⟨g, 0, none⟩ hx (c.map Value.bool) _ (fun j v hj => ?_) Try.underlying38 rfl (by rw [List.length_map, hc]; kernel_rfl)
 have := qa2 h j
 show w.cell? ((⟨g, 0, none⟩ : Addr).add j) = some v
 rw [add0_ g j, this]
 unfold bl
 simpa using hj
theorem bl_at {c : List Bool} {i : Nat} (hc : c.length = 10) (hi : i < 10) : (bl c)[i]? = some (.bool (c.getD i false)) := by
 unfold bl
 rw [List.getElem?_toArray, List.getElem?_map, List.getElem?_eq_getElem (by omega), List.getD_eq_getElem?_getD, List.getElem?_eq_getElem (by omega)]
 rfl
theorem bl_set (c : List Bool) (i : Nat) : (bl c).setIfInBounds i (.bool true) = bl (c.set i true) := by
 unfold bl
 rw [List.setIfInBounds_toArray, List.map_set]
theorem qcx {w : World} {g t : Nat} {old cells : Array Value} (h : w.heap[g]? = some (.cells old t (0, 0))) : (w.setRow g cells).heap[g]? = some (.cells cells t (0, 0)) := setRow_heap w g old cells t (0, 0) h
theorem qde {w : World} {g k : Nat} {cells : Array Value} {o : Obj} (h : w.heap[k]? = some o) (hne : k ≠ g) : (w.setRow g cells).heap[k]? = some o := by
 unfold World.setRow
 have : g ≠ k := fun e => hne e.symm
 simpa [Array.getElem?_modify, this] using h
theorem ShpL_len : ∀ (xs : List S27) (n : Int) (c : List Bool) (n' : Int) (c' : List Bool), (∀ x ∈ xs, ∀ a b a' b', Shp x a b a' b' → b'.length = b.length ∧ a ≤ a' ∧ (a ≤ 9 → a' ≤ 9)) → ShpL xs n c n' c' → c'.length = c.length ∧ n ≤ n' ∧ (n ≤ 9 → n' ≤ 9)
 | [], n, c, n', c', _, ⟨h1, h2⟩ => by subst h1; subst h2; exact ⟨rfl, Int.le_refl _, id⟩
 | x :: xs, n, c, n', c', hx, ⟨n1, c1, h1, h2⟩ => by
  obtain ⟨a1, a2, a3⟩ := hx x List.mem_cons_self _ _ _ _ h1
  obtain ⟨b1, b2, b3⟩ := ShpL_len xs _ _ _ _ (fun y hy => hx y (List.mem_cons_of_mem _ hy)) h2
  exact ⟨b1.trans a1, Int.le_trans a2 b2, fun h => b3 (a3 h)⟩
theorem qfz : ∀ (m : Nat) (t : S27) (n : Int) (c : List Bool) (n' : Int) (c' : List Bool), SizeOf.sizeOf t < m → Shp t n c n' c' → c'.length = c.length ∧ n ≤ n' ∧ (n ≤ 9 → n' ≤ 9) := by
 intro m
 induction m with
 | zero => intro t n c n' c' h; omega
 | succ m ih =>
  rintro ⟨k, s, lo, hi, g, xs⟩ n c n' c' hm ⟨hn, c1, h1, h2⟩
  have hk : k = 4 → n ≤ 8 := by
   intro e
   subst e
   rcases hn with h | h | h | h | h | h
   ·exact absurd h.1 (by decide)
   ·exact absurd h.1 (by decide)
   ·rcases h.1 with h | h <;> exact absurd h (by decide)
   ·have := h.2.2.2.2.1
    have := h.2.2.2.2.2.1
    omega
   ·exact absurd h.1 (by decide)
   ·exact absurd h.1 (by decide)
  obtain ⟨q1, q2, q3⟩ := ShpL_len xs _ _ _ _ (fun x hx a b a' b' h => ih x a b a' b' (by
   have := List.sizeOf_lt_of_mem hx
   simp only [S27.mk.sizeOf_spec] at hm
   omega) h) h1
  refine ⟨?_, ?_, fun h9 => ?_⟩
  ·rw [h2]
   split
   ·rw [List.length_set, q1]
   ·exact q1
  ·split at q2 <;> omega
  ·by_cases e : k = 4
   ·rw [if_pos e] at q3
    exact q3 (by have := hk e; omega)
   ·rw [if_neg e] at q3
    exact q3 h9
def shp_T22 : Bool × List (List Nat × List Nat) := (true, [([], []), ([0], [0]), ([], []), ([1, 2], [1, 2]), ([3], [3]), ([], []), ([], []), ([4, 5, 6], [4, 5, 6]), ([7], [7]), ([8], [8]), ([8], [8]), ([8], [8]), ([9, 7, 0, 1, 2, 3, 4, 5, 6, 7, 8, 9], [5, 9]), ([10, 12, 0, 1, 2, 3, 4, 5, 6, 7, 8, 9, 10, 12], [10]), ([11, 13, 0, 1, 2, 3, 4, 5, 6, 7, 8, 9, 10, 11, 12, 13], [11])])
def shp_B22 : List Nat := [0, 1, 0, 7, 15, 0, 0, 127, 255, 511, 511, 511, 1023, 6143, 16383]
theorem shp_tab22 : rtab .any (opsOf Try.f16 22) = shp_T22 := by kernel_rfl
theorem shp_bits22 : qct shp_T22.2 shp_B22 = true := by kernel_rfl
def shp_T26 : Bool × List (List Nat × List Nat) := (true, [([], []), ([], []), ([], []), ([0, 0], [0]), ([1, 3, 0, 1, 3], [1]), ([2, 4, 0, 1, 2, 3, 4], [2])])
def shp_B26 : List Nat := [0, 0, 0, 1, 11, 31]
theorem shp_tab26 : rtab .any (opsOf Try.f16 26) = shp_T26 := by kernel_rfl
theorem shp_bits26 : qct shp_T26.2 shp_B26 = true := by kernel_rfl
theorem qd7 {n m k : Nat} (h : Nat.ble m k = true) (hn : Nat.ble n m = true) : Nat.ble n k = true := by rw [Nat.ble_eq] at h hn ⊢; exact Nat.le_trans hn h
def qfe (gb : Nat) (ad pd : Addr) (len cp c8 : Nat) (A8 : Option Addr) (xj n1 n2 : Int) (c1 c2 : List Bool) (X : S27) : List (Nat × Tmp × Value) := [(0, 195, .pointer (some ⟨gb, 8, none⟩)), (1, 196, .slice (some ad) len cp), (2, 197, .int .i64 xj), (3, 198, .pointer (some pd)), (4, 199, .agg #[.int .i64 X.f0, .int .u64 X.f1.f0, .int .u64 X.f1.f1, .int .u64 X.f1.f2, .int .u64 X.f1.f3, .int .i64 X.f2, .int .i64 X.f3, .int .i64 X.f4, .slice A8 X.f5.length c8]), (5, 200, .int .i64 n1), (6, 201, .agg (bl c1)), (7, 202, .tuple #[.int .i64 n2, .agg (bl c2), .bool true]), (8, 194, .tuple #[.int .i64 n2, .agg (bl c2), .bool true]), (9, 203, .int .i64 n2), (10, 204, .agg (bl c2)), (11, 205, .bool true), (12, 1, .int .i64 n2), (14, 11, .bool true)]
set_option maxHeartbeats 4000000 in
set_option maxRecDepth 100000 in
theorem qh9 {Q : Exit → Act → World → Prop} {a0 : Act} {Y0 : World} {gb gc : Nat} {ad pd : Addr} {len cp c8 : Nat} {A8 : Option Addr} {xj n1 n2 : Int} {c1 c2 : List Bool} {X : S27} (hsz : Nat.ble 219 a0.tmps.size = true) (o3 : a0.tmps[3]? = some (.pointer (some ⟨gb, 0, none⟩))) (o10 : a0.tmps[10]? = some (.int .i64 xj)) (o1 : a0.tmps[1]? = some (.int .i64 n1)) (o5 : a0.tmps[5]? = some (.pointer (some ⟨gc, 0, none⟩)))
  (h8 : Y0.cell? ⟨gb, 8, none⟩ = some (.slice (some ad) len cp)) (hx0 : 0 ≤ xj) (hxl : xj < (len : Int)) (hpd : ad.add (xj.toNat * 9) = pd) (k0 : Y0.cell? pd = some (.int .i64 X.f0)) (k1 : Y0.cell? ⟨pd.block, pd.off + 1, none⟩ = some (.int .u64 X.f1.f0)) (k2 : Y0.cell? ⟨pd.block, pd.off + 2, none⟩ = some (.int .u64 X.f1.f1)) (k3 : Y0.cell? ⟨pd.block, pd.off + 3, none⟩ = some (.int .u64 X.f1.f2)) (k4 : Y0.cell? ⟨pd.block, pd.off + 4, none⟩ = some (.int .u64 X.f1.f3)) (k5 : Y0.cell? ⟨pd.block, pd.off + 5, none⟩ = some (.int .i64 X.f2)) (k6 : Y0.cell? ⟨pd.block, pd.off + 6, none⟩ = some (.int .i64 X.f3)) (k7 : Y0.cell? ⟨pd.block, pd.off + 7, none⟩ = some (.int .i64 X.f4)) (k8 : Y0.cell? ⟨pd.block, pd.off + 8, none⟩ = some (.slice A8 X.f5.length c8)) (hl1 : c1.length = 10) (hl2 : c2.length = 10) (hg : Y0.heap[gc]? = some (.cells (bl c1) 38 (0, 0)))
  (hcall : Calls Try.prog 16 #[.agg #[.int .i64 X.f0, .int .u64 X.f1.f0, .int .u64 X.f1.f1, .int .u64 X.f1.f2, .int .u64 X.f1.f3, .int .i64 X.f2, .int .i64 X.f3, .int .i64 X.f4, .slice A8 X.f5.length c8], .int .i64 n1, .agg (bl c1)] Y0.drew fun e w' => e = .returned (.tuple #[.int .i64 n2, .agg (bl c2), .bool true]) ∧ Below Y0.drew.heap.size Y0.drew w')
  (hQ : ∀ w3, Below Y0.drew.heap.size Y0.drew w3 → Q .normal (qb0 a0 (fun _ => true) (qfe gb ad pd len cp c8 A8 xj n1 n2 c1 c2 X)) (w3.setRow gc (bl c2))) : (Code.region 22 (opsOf Try.f16 22) true).wp Try.prog Q a0 Y0 := by
 have hu27 := Try.underlying27
 have HX0 := qa0.mk hx0
 have HXL := qa0.mk hxl
 have HPD := qa0.mk hpd
 have HL1 := qa0.mk hl1
 have HL2 := qa0.mk hl2
 have HQ := qa0.mk hQ
 have HCL := qa0.mk hcall
 have H8 := qa0.mk h8
 have HG := qa0.mk hg
 have HK0 := qa0.mk k0
 have HK1 := qa0.mk k1
 have HK2 := qa0.mk k2
 have HK3 := qa0.mk k3
 have HK4 := qa0.mk k4
 have HK5 := qa0.mk k5
 have HK6 := qa0.mk k6
 have HK7 := qa0.mk k7
 have HK8 := qa0.mk k8
 clear hx0 hxl hpd hl1 hl2 hQ hcall h8 hg k0 k1 k2 k3 k4 k5 k6 k7 k8
 simp only [opsOf, Try.f16, qdw, Option.bind_some, Option.getD_some, Nat.reduceEqDiff, Nat.reduceBEq, beq_self_eq_true, if_true, if_false, ↓reduceIte, Bool.false_eq_true]
 refine qe1 (n := 15) (S := fun w' => True) (ds := []) #[false, false, false, false, false, false, false, false, false, false, false, false, false, false, false] (by kernel_rfl) rfl rfl trivial (fun hHeld => ?_)
 refine qd4 shp_tab22 shp_bits22 (fun HT_ HW_ => ?_)
 refine qe6 [0, 1, 2, 3, 4, 5, 6, 7, 8, 9, 10, 11, 12, 13, 14] (fun a0_ b_ a w' => a = qb0 a0_ b_ [(0, 195, .pointer (some ⟨gb, 8, none⟩)), (1, 196, .slice (some ad) len cp), (2, 197, .int .i64 xj), (3, 198, .pointer (some pd)), (4, 199, .agg #[.int .i64 X.f0, .int .u64 X.f1.f0, .int .u64 X.f1.f1, .int .u64 X.f1.f2, .int .u64 X.f1.f3, .int .i64 X.f2, .int .i64 X.f3, .int .i64 X.f4, .slice A8 X.f5.length c8]), (5, 200, .int .i64 n1), (6, 201, .agg (bl c1)), (7, 202, .tuple #[.int .i64 n2, .agg (bl c2), .bool true]), (8, 194, .tuple #[.int .i64 n2, .agg (bl c2), .bool true]), (9, 203, .int .i64 n2), (10, 204, .agg (bl c2)), (11, 205, .bool true), (12, 1, .int .i64 n2), (14, 11, .bool true)] ∧ (b_ 7 = false → w' = Y0.drew) ∧ (b_ 7 = true → b_ 13 = false → Below Y0.drew.heap.size Y0.drew w') ∧ (b_ 13 = true → ∃ w3, Below Y0.drew.heap.size Y0.drew w3 ∧ w' = w3.setRow gc (bl c2))) HT_.out HW_.out (by kernel_rfl) (by kernel_rfl) ?_ ?_ ?_
 ·exact ⟨by simp only [qb0, Bool.false_eq_true, if_false], (fun _ => rfl), (fun h => by cases h), (fun h => by cases h)⟩
 ·skip
  refine qab ?_ ?_
  ·rintro b_ a w' ⟨ha, h0, h1, h2⟩ hb_ hon hoff
   refine ⟨_, rfl, fun Kc hKc => ?_⟩
   have e3 : a.tmps[3]? = some (.pointer (some ⟨gb, 0, none⟩)) := by rw [ha]; exact (qb4 rfl).trans o3
   replace ha := qa0.mk ha
   refine qar (w1 := w') (v := .pointer (some ⟨gb, 8, none⟩)) (by rfl) rfl (by go_simp; try rfl) ?_
   exact hKc.out _ _ ⟨by rw [ha.out]; exact qac 0 hb_ rfl rfl rfl, h0, h1, h2⟩
  refine qab ?_ ?_
  ·rintro b_ a w' ⟨ha, h0, h1, h2⟩ hb_ hon hoff
   refine ⟨_, rfl, fun Kc hKc => ?_⟩
   have e195 : a.tmps[195]? = some (.pointer (some ⟨gb, 8, none⟩)) := by rw [ha]; exact qaf (e := (0, 195, .pointer (some ⟨gb, 8, none⟩))) 0 rfl rfl (hon 0 (by kernel_rfl)) (qd7 hsz rfl)
   have hw := h0 (hoff 7 (by kernel_rfl))
   rw [hw]
   replace ha := qa0.mk ha
   have h8 : Y0.drew.cell? ⟨gb, 8, none⟩ = some (.slice (some ad) len cp) := H8.out
   refine qar (w1 := w') (v := .slice (some ad) len cp) (by rfl) rfl (by go_simp; try rfl) ?_
   exact hKc.out _ _ ⟨by rw [ha.out]; exact qac 1 hb_ rfl rfl rfl, h0, h1, h2⟩
  refine qab ?_ ?_
  ·rintro b_ a w' ⟨ha, h0, h1, h2⟩ hb_ hon hoff
   refine ⟨_, rfl, fun Kc hKc => ?_⟩
   have e10 : a.tmps[10]? = some (.int .i64 xj) := by rw [ha]; exact (qb4 rfl).trans o10
   replace ha := qa0.mk ha
   refine qar (w1 := w') (v := .int .i64 xj) (by rfl) rfl (by go_simp; try rfl) ?_
   exact hKc.out _ _ ⟨by rw [ha.out]; exact qac 2 hb_ rfl rfl rfl, h0, h1, h2⟩
  refine qab ?_ ?_
  ·rintro b_ a w' ⟨ha, h0, h1, h2⟩ hb_ hon hoff
   refine ⟨_, rfl, fun Kc hKc => ?_⟩
   have e196 : a.tmps[196]? = some (.slice (some ad) len cp) := by rw [ha]; exact qaf (e := (1, 196, .slice (some ad) len cp)) 1 rfl rfl (hon 1 (by kernel_rfl)) (qd7 hsz rfl)
   have e197 : a.tmps[197]? = some (.int .i64 xj) := by rw [ha]; exact qaf (e := (2, 197, .int .i64 xj)) 2 rfl rfl (hon 2 (by kernel_rfl)) (qd7 hsz rfl)
   replace ha := qa0.mk ha
   have p0 := eq_true HX0.out
   have q0 := eq_true HXL.out
   have hpd := HPD.out
   refine qar (w1 := w') (v := .pointer (some pd)) (by rfl) rfl (by go_simp; first | done | rfl | (rw [hpd]; done) | (simp only [hpd])) ?_
   exact hKc.out _ _ ⟨by rw [ha.out]; exact qac 3 hb_ rfl rfl rfl, h0, h1, h2⟩
  refine qab ?_ ?_
  ·rintro b_ a w' ⟨ha, h0, h1, h2⟩ hb_ hon hoff
   refine ⟨_, rfl, fun Kc hKc => ?_⟩
   have e198 : a.tmps[198]? = some (.pointer (some pd)) := by rw [ha]; exact qaf (e := (3, 198, .pointer (some pd))) 3 rfl rfl (hon 3 (by kernel_rfl)) (qd7 hsz rfl)
   have hw := h0 (hoff 7 (by kernel_rfl))
   rw [hw]
   replace ha := qa0.mk ha
   have f0 : Y0.drew.cell? _ = _ := HK0.out
   have f1 : Y0.drew.cell? _ = _ := HK1.out
   have f2 : Y0.drew.cell? _ = _ := HK2.out
   have f3 : Y0.drew.cell? _ = _ := HK3.out
   have f4 : Y0.drew.cell? _ = _ := HK4.out
   have f5 : Y0.drew.cell? _ = _ := HK5.out
   have f6 : Y0.drew.cell? _ = _ := HK6.out
   have f7 : Y0.drew.cell? _ = _ := HK7.out
   have f8 : Y0.drew.cell? _ = _ := HK8.out
   refine qar (w1 := w') (v := .agg #[.int .i64 X.f0, .int .u64 X.f1.f0, .int .u64 X.f1.f1, .int .u64 X.f1.f2, .int .u64 X.f1.f3, .int .i64 X.f2, .int .i64 X.f3, .int .i64 X.f4, .slice A8 X.f5.length c8]) (by rfl) rfl (by go_simp; try rfl) ?_
   exact hKc.out _ _ ⟨by rw [ha.out]; exact qac 4 hb_ rfl rfl rfl, h0, h1, h2⟩
  refine qab ?_ ?_
  ·rintro b_ a w' ⟨ha, h0, h1, h2⟩ hb_ hon hoff
   refine ⟨_, rfl, fun Kc hKc => ?_⟩
   have e1 : a.tmps[1]? = some (.int .i64 n1) := by rw [ha]; exact (qg8 (hoff 12 (by kernel_rfl)) rfl).trans o1
   replace ha := qa0.mk ha
   refine qar (w1 := w') (v := .int .i64 n1) (by rfl) rfl (by go_simp; try rfl) ?_
   exact hKc.out _ _ ⟨by rw [ha.out]; exact qac 5 hb_ rfl rfl rfl, h0, h1, h2⟩
  refine qab ?_ ?_
  ·rintro b_ a w' ⟨ha, h0, h1, h2⟩ hb_ hon hoff
   refine ⟨_, rfl, fun Kc hKc => ?_⟩
   have e5 : a.tmps[5]? = some (.pointer (some ⟨gc, 0, none⟩)) := by rw [ha]; exact (qb4 rfl).trans o5
   have hw := h0 (hoff 7 (by kernel_rfl))
   subst hw
   replace ha := qa0.mk ha
   refine qar (w1 := Y0.drew) (v := .agg (bl c1)) (by rfl) rfl (load_bl (a := a) HL1.out (show Y0.drew.heap[gc]? = _ from HG.out) (.tmp 5) rfl (by simp only [Act.eval, Array.getD_eq_getD_getElem?, e5, Option.getD_some])) ?_
   exact hKc.out _ _ ⟨by rw [ha.out]; exact qac 6 hb_ rfl rfl rfl, h0, h1, h2⟩
  refine qab ?_ ?_
  ·rintro b_ a w' ⟨ha, h0, h1, h2⟩ hb_ hon hoff
   refine ⟨_, rfl, fun Kc hKc => ?_⟩
   have e199 : a.tmps[199]? = some (.agg #[.int .i64 X.f0, .int .u64 X.f1.f0, .int .u64 X.f1.f1, .int .u64 X.f1.f2, .int .u64 X.f1.f3, .int .i64 X.f2, .int .i64 X.f3, .int .i64 X.f4, .slice A8 X.f5.length c8]) := by rw [ha]; exact qaf (e := (4, 199, .agg #[.int .i64 X.f0, .int .u64 X.f1.f0, .int .u64 X.f1.f1, .int .u64 X.f1.f2, .int .u64 X.f1.f3, .int .i64 X.f2, .int .i64 X.f3, .int .i64 X.f4, .slice A8 X.f5.length c8])) 4 rfl rfl (hon 4 (by kernel_rfl)) (qd7 hsz rfl)
   have e200 : a.tmps[200]? = some (.int .i64 n1) := by rw [ha]; exact qaf (e := (5, 200, .int .i64 n1)) 5 rfl rfl (hon 5 (by kernel_rfl)) (qd7 hsz rfl)
   have e201 : a.tmps[201]? = some (.agg (bl c1)) := by rw [ha]; exact qaf (e := (6, 201, .agg (bl c1))) 6 rfl rfl (hon 6 (by kernel_rfl)) (qd7 hsz rfl)
   have hw := h0 hb_
   rw [hw]
   replace ha := qa0.mk ha
   refine qhb Try.func16 (by kernel_rfl) rfl #[.agg #[.int .i64 X.f0, .int .u64 X.f1.f0, .int .u64 X.f1.f1, .int .u64 X.f1.f2, .int .u64 X.f1.f3, .int .i64 X.f2, .int .i64 X.f3, .int .i64 X.f4, .slice A8 X.f5.length c8], .int .i64 n1, .agg (bl c1)] (by rfl) rfl rfl (by simp only [List.map_toArray, List.map_cons, List.map_nil, Act.eval, Array.getD_eq_getD_getElem?, e199, e200, e201, Option.getD_some]) ?_
   refine HCL.out.mono ?_
   rintro e' w10 ⟨rfl, hb1⟩
   refine ⟨_, rfl, ?_⟩
   exact hKc.out _ _ ⟨by rw [ha.out]; exact qac 7 hb_ rfl rfl rfl, (fun h => by cases h), (fun _ _ => hb1), (fun h => by cases ((hoff 13 (by kernel_rfl)).symm.trans h))⟩
  refine qab ?_ ?_
  ·rintro b_ a w' ⟨ha, h0, h1, h2⟩ hb_ hon hoff
   refine ⟨_, rfl, fun Kc hKc => ?_⟩
   have e202 : a.tmps[202]? = some (.tuple #[.int .i64 n2, .agg (bl c2), .bool true]) := by rw [ha]; exact qaf (e := (7, 202, .tuple #[.int .i64 n2, .agg (bl c2), .bool true])) 7 rfl rfl (hon 7 (by kernel_rfl)) (qd7 hsz rfl)
   replace ha := qa0.mk ha
   refine qar (w1 := w') (v := .tuple #[.int .i64 n2, .agg (bl c2), .bool true]) (by rfl) rfl (by go_simp; try rfl) ?_
   exact hKc.out _ _ ⟨by rw [ha.out]; exact qac 8 hb_ rfl rfl rfl, h0, h1, h2⟩
  refine qab ?_ ?_
  ·rintro b_ a w' ⟨ha, h0, h1, h2⟩ hb_ hon hoff
   refine ⟨_, rfl, fun Kc hKc => ?_⟩
   have e194 : a.tmps[194]? = some (.tuple #[.int .i64 n2, .agg (bl c2), .bool true]) := by rw [ha]; exact qaf (e := (8, 194, .tuple #[.int .i64 n2, .agg (bl c2), .bool true])) 8 rfl rfl (hon 8 (by kernel_rfl)) (qd7 hsz rfl)
   replace ha := qa0.mk ha
   refine qar (w1 := w') (v := .int .i64 n2) (by rfl) rfl (by go_simp; try rfl) ?_
   exact hKc.out _ _ ⟨by rw [ha.out]; exact qac 9 hb_ rfl rfl rfl, h0, h1, h2⟩
  refine qab ?_ ?_
  ·rintro b_ a w' ⟨ha, h0, h1, h2⟩ hb_ hon hoff
   refine ⟨_, rfl, fun Kc hKc => ?_⟩
   have e194 : a.tmps[194]? = some (.tuple #[.int .i64 n2, .agg (bl c2), .bool true]) := by rw [ha]; exact qaf (e := (8, 194, .tuple #[.int .i64 n2, .agg (bl c2), .bool true])) 8 rfl rfl (hon 8 (by kernel_rfl)) (qd7 hsz rfl)
   replace ha := qa0.mk ha
   refine qar (w1 := w') (v := .agg (bl c2)) (by rfl) rfl (by go_simp; try rfl) ?_
   exact hKc.out _ _ ⟨by rw [ha.out]; exact qac 10 hb_ rfl rfl rfl, h0, h1, h2⟩
  refine qab ?_ ?_
  ·rintro b_ a w' ⟨ha, h0, h1, h2⟩ hb_ hon hoff
   refine ⟨_, rfl, fun Kc hKc => ?_⟩
   have e194 : a.tmps[194]? = some (.tuple #[.int .i64 n2, .agg (bl c2), .bool true]) := by rw [ha]; exact qaf (e := (8, 194, .tuple #[.int .i64 n2, .agg (bl c2), .bool true])) 8 rfl rfl (hon 8 (by kernel_rfl)) (qd7 hsz rfl)
   replace ha := qa0.mk ha
   refine qar (w1 := w') (v := .bool true) (by rfl) rfl (by go_simp; try rfl) ?_
   exact hKc.out _ _ ⟨by rw [ha.out]; exact qac 11 hb_ rfl rfl rfl, h0, h1, h2⟩
  refine qab ?_ ?_
  ·rintro b_ a w' ⟨ha, h0, h1, h2⟩ hb_ hon hoff
   refine ⟨_, rfl, fun Kc hKc => ?_⟩
   have e203 : a.tmps[203]? = some (.int .i64 n2) := by rw [ha]; exact qaf (e := (9, 203, .int .i64 n2)) 9 rfl rfl (hon 9 (by kernel_rfl)) (qd7 hsz rfl)
   replace ha := qa0.mk ha
   refine qar (w1 := w') (v := .int .i64 n2) (by rfl) rfl (by go_simp; try rfl) ?_
   exact hKc.out _ _ ⟨by rw [ha.out]; exact qac 12 hb_ rfl rfl rfl, h0, h1, h2⟩
  refine qab ?_ ?_
  ·rintro b_ a w' ⟨ha, h0, h1, h2⟩ hb_ hon hoff
   refine ⟨_, rfl, fun Kc hKc => ?_⟩
   have e5 : a.tmps[5]? = some (.pointer (some ⟨gc, 0, none⟩)) := by rw [ha]; exact (qb4 rfl).trans o5
   have e204 : a.tmps[204]? = some (.agg (bl c2)) := by rw [ha]; exact qaf (e := (10, 204, .agg (bl c2))) 10 rfl rfl (hon 10 (by kernel_rfl)) (qd7 hsz rfl)
   have hbw := h1 (hon 7 (by kernel_rfl)) hb_
   have hgw := qae (show Y0.drew.heap[gc]? = _ from HG.out) hbw
   replace ha := qa0.mk ha
   refine qgg (w1 := w'.setRow gc (bl c2)) (by rfl) rfl (qgy 38 (.tmp 5) (.tmp 204) rfl gc _ (by simp only [Act.eval, Array.getD_eq_getD_getElem?, e5, Option.getD_some]) (by simp only [Act.eval, Array.getD_eq_getD_getElem?, e204, Option.getD_some]) 38 _ hgw (info_bl HL2.out) (by rw [qdf HL1.out, qdf HL2.out]) (bl_one _)) ?_
   exact hKc.out _ _ ⟨by rw [ha.out]; exact (qd1 rfl).symm, (fun h => by cases ((hon 7 (by kernel_rfl)).symm.trans h)), (fun _ h => by cases h), (fun _ => ⟨w', hbw, rfl⟩)⟩
  refine qab ?_ ?_
  ·rintro b_ a w' ⟨ha, h0, h1, h2⟩ hb_ hon hoff
   refine ⟨_, rfl, fun Kc hKc => ?_⟩
   have e205 : a.tmps[205]? = some (.bool true) := by rw [ha]; exact qaf (e := (11, 205, .bool true)) 11 rfl rfl (hon 11 (by kernel_rfl)) (qd7 hsz rfl)
   replace ha := qa0.mk ha
   refine qar (w1 := w') (v := .bool true) (by rfl) rfl (by go_simp; try rfl) ?_
   exact hKc.out _ _ ⟨by rw [ha.out]; exact qac 13 hb_ rfl rfl rfl, h0, h1, h2⟩
  exact qd8
 ·rintro b_ a w' hall ⟨ha, h0, h1, h2⟩
  have hb0_ := hall 0 (by kernel_rfl)
  have hb1_ := hall 1 (by kernel_rfl)
  have hb2_ := hall 2 (by kernel_rfl)
  have hb3_ := hall 3 (by kernel_rfl)
  have hb4_ := hall 4 (by kernel_rfl)
  have hb5_ := hall 5 (by kernel_rfl)
  have hb6_ := hall 6 (by kernel_rfl)
  have hb7_ := hall 7 (by kernel_rfl)
  have hb8_ := hall 8 (by kernel_rfl)
  have hb9_ := hall 9 (by kernel_rfl)
  have hb10_ := hall 10 (by kernel_rfl)
  have hb11_ := hall 11 (by kernel_rfl)
  have hb12_ := hall 12 (by kernel_rfl)
  have hb13_ := hall 13 (by kernel_rfl)
  have hb14_ := hall 14 (by kernel_rfl)
  subst ha
  obtain ⟨w3, hb3, hw⟩ := h2 hb13_
  rw [hw]
  have hq := HQ.out w3 hb3
  unfold qfe at hq
  simp only [qb0, hb0_, hb1_, hb2_, hb3_, hb4_, hb5_, hb6_, hb7_, hb8_, hb9_, hb10_, hb11_, hb12_, hb14_, if_true] at hq ⊢
  exact hq
def qe5 (n1 : Int) (c1 : List Bool) : List (Nat × Tmp × Value) := [(0, 216, .int .i64 n1), (1, 217, .agg (bl c1)), (2, 218, .bool true), (3, 6, .int .i64 n1), (5, 8, .bool true)]
set_option maxHeartbeats 4000000 in
set_option maxRecDepth 100000 in
theorem qem {Q : Exit → Act → World → Prop} {a0 : Act} {Y0 : World} {gc gr : Nat} {n1 : Int} {c1 cz : List Bool} (hsz : Nat.ble 219 a0.tmps.size = true) (o1 : a0.tmps[1]? = some (.int .i64 n1)) (o5 : a0.tmps[5]? = some (.pointer (some ⟨gc, 0, none⟩))) (o9 : a0.tmps[9]? = some (.bool true)) (o7 : a0.tmps[7]? = some (.pointer (some ⟨gr, 0, none⟩)))
  (hl1 : c1.length = 10) (hlz : cz.length = 10) (hg : Y0.heap[gc]? = some (.cells (bl c1) 38 (0, 0))) (hr : Y0.heap[gr]? = some (.cells (bl cz) 38 (0, 0)))
  (hQ : Q .normal (qb0 a0 (fun _ => true) (qe5 n1 c1)) (Y0.drew.setRow gr (bl c1))) : (Code.region 26 (opsOf Try.f16 26) true).wp Try.prog Q a0 Y0 := by
 have HL1 := qa0.mk hl1
 have HLZ := qa0.mk hlz
 have HQ := qa0.mk hQ
 have HG := qa0.mk hg
 have HR := qa0.mk hr
 clear hl1 hlz hQ hg hr
 simp only [opsOf, Try.f16, qdw, Option.bind_some, Option.getD_some, Nat.reduceEqDiff, Nat.reduceBEq, beq_self_eq_true, if_true, if_false, ↓reduceIte, Bool.false_eq_true]
 refine qe1 (n := 6) (S := fun w' => True) (ds := []) #[false, false, false, false, false, false] (by kernel_rfl) rfl rfl trivial (fun hHeld => ?_)
 refine qd4 shp_tab26 shp_bits26 (fun HT_ HW_ => ?_)
 refine qe6 [0, 1, 2, 3, 4, 5] (fun a0_ b_ a w' => a = qb0 a0_ b_ [(0, 216, .int .i64 n1), (1, 217, .agg (bl c1)), (2, 218, .bool true), (3, 6, .int .i64 n1), (5, 8, .bool true)] ∧ (b_ 4 = false → w' = Y0.drew) ∧ (b_ 4 = true → w' = Y0.drew.setRow gr (bl c1))) HT_.out HW_.out (by kernel_rfl) (by kernel_rfl) ?_ ?_ ?_
 ·exact ⟨by simp only [qb0, Bool.false_eq_true, if_false], (fun _ => rfl), (fun h => by cases h)⟩
 ·skip
  refine qab ?_ ?_
  ·rintro b_ a w' ⟨ha, h0, h1⟩ hb_ hon hoff
   refine ⟨_, rfl, fun Kc hKc => ?_⟩
   have e1 : a.tmps[1]? = some (.int .i64 n1) := by rw [ha]; exact (qb4 rfl).trans o1
   replace ha := qa0.mk ha
   refine qar (w1 := w') (v := .int .i64 n1) (by rfl) rfl (by go_simp; try rfl) ?_
   exact hKc.out _ _ ⟨by rw [ha.out]; exact qac 0 hb_ rfl rfl rfl, h0, h1⟩
  refine qab ?_ ?_
  ·rintro b_ a w' ⟨ha, h0, h1⟩ hb_ hon hoff
   refine ⟨_, rfl, fun Kc hKc => ?_⟩
   have e5 : a.tmps[5]? = some (.pointer (some ⟨gc, 0, none⟩)) := by rw [ha]; exact (qb4 rfl).trans o5
   have hw := h0 (hoff 4 (by kernel_rfl))
   subst hw
   replace ha := qa0.mk ha
   refine qar (w1 := Y0.drew) (v := .agg (bl c1)) (by rfl) rfl (load_bl (a := a) HL1.out (show Y0.drew.heap[gc]? = _ from HG.out) (.tmp 5) rfl (by simp only [Act.eval, Array.getD_eq_getD_getElem?, e5, Option.getD_some])) ?_
   exact hKc.out _ _ ⟨by rw [ha.out]; exact qac 1 hb_ rfl rfl rfl, h0, h1⟩
  refine qab ?_ ?_
  ·rintro b_ a w' ⟨ha, h0, h1⟩ hb_ hon hoff
   refine ⟨_, rfl, fun Kc hKc => ?_⟩
   have e9 : a.tmps[9]? = some (.bool true) := by rw [ha]; exact (qb4 rfl).trans o9
   replace ha := qa0.mk ha
   refine qar (w1 := w') (v := .bool true) (by rfl) rfl (by go_simp; try rfl) ?_
   exact hKc.out _ _ ⟨by rw [ha.out]; exact qac 2 hb_ rfl rfl rfl, h0, h1⟩
  refine qab ?_ ?_
  ·rintro b_ a w' ⟨ha, h0, h1⟩ hb_ hon hoff
   refine ⟨_, rfl, fun Kc hKc => ?_⟩
   have e216 : a.tmps[216]? = some (.int .i64 n1) := by rw [ha]; exact qaf (e := (0, 216, .int .i64 n1)) 0 rfl rfl (hon 0 (by kernel_rfl)) (qd7 hsz rfl)
   replace ha := qa0.mk ha
   refine qar (w1 := w') (v := .int .i64 n1) (by rfl) rfl (by go_simp; try rfl) ?_
   exact hKc.out _ _ ⟨by rw [ha.out]; exact qac 3 hb_ rfl rfl rfl, h0, h1⟩
  refine qab ?_ ?_
  ·rintro b_ a w' ⟨ha, h0, h1⟩ hb_ hon hoff
   refine ⟨_, rfl, fun Kc hKc => ?_⟩
   have e7 : a.tmps[7]? = some (.pointer (some ⟨gr, 0, none⟩)) := by rw [ha]; exact (qb4 rfl).trans o7
   have e217 : a.tmps[217]? = some (.agg (bl c1)) := by rw [ha]; exact qaf (e := (1, 217, .agg (bl c1))) 1 rfl rfl (hon 1 (by kernel_rfl)) (qd7 hsz rfl)
   have hw := h0 hb_
   rw [hw]
   replace ha := qa0.mk ha
   refine qgg (w1 := Y0.drew.setRow gr (bl c1)) (by rfl) rfl (qgy 38 (.tmp 7) (.tmp 217) rfl gr _ (by simp only [Act.eval, Array.getD_eq_getD_getElem?, e7, Option.getD_some]) (by simp only [Act.eval, Array.getD_eq_getD_getElem?, e217, Option.getD_some]) 38 _ (show Y0.drew.heap[gr]? = _ from HR.out) (info_bl HL1.out) (by rw [qdf HL1.out, qdf HLZ.out]) (bl_one _)) ?_
   exact hKc.out _ _ ⟨by rw [ha.out]; exact (qd1 rfl).symm, (fun h => by cases h), (fun _ => rfl)⟩
  refine qab ?_ ?_
  ·rintro b_ a w' ⟨ha, h0, h1⟩ hb_ hon hoff
   refine ⟨_, rfl, fun Kc hKc => ?_⟩
   have e218 : a.tmps[218]? = some (.bool true) := by rw [ha]; exact qaf (e := (2, 218, .bool true)) 2 rfl rfl (hon 2 (by kernel_rfl)) (qd7 hsz rfl)
   replace ha := qa0.mk ha
   refine qar (w1 := w') (v := .bool true) (by rfl) rfl (by go_simp; try rfl) ?_
   exact hKc.out _ _ ⟨by rw [ha.out]; exact qac 4 hb_ rfl rfl rfl, h0, h1⟩
  exact qd8
 ·rintro b_ a w' hall ⟨ha, h0, h1⟩
  have hb0_ := hall 0 (by kernel_rfl)
  have hb1_ := hall 1 (by kernel_rfl)
  have hb2_ := hall 2 (by kernel_rfl)
  have hb3_ := hall 3 (by kernel_rfl)
  have hb4_ := hall 4 (by kernel_rfl)
  have hb5_ := hall 5 (by kernel_rfl)
  subst ha
  rw [h1 hb4_]
  have hq := HQ.out
  unfold qe5 at hq
  simp only [qb0, hb0_, hb1_, hb2_, hb3_, hb5_, if_true] at hq ⊢
  exact hq
set_option maxHeartbeats 8000000 in
set_option maxRecDepth 100000 in
theorem shaped_0 (m : Nat) (ih : ∀ (t : S27) (n : Int) (c : List Bool) (n' : Int) (c' : List Bool) (A : Option Addr) (cp : Nat) (w : World), SizeOf.sizeOf t < m → Shp t n c n' c' → c.length = 10 → 0 ≤ n → n ≤ 9 → Kd.C k27 w A t.f5.length t.f5 → t.f5.length ≤ cp →
   Calls Try.prog 16 #[.agg #[.int .i64 t.f0, .int .u64 t.f1.f0, .int .u64 t.f1.f1, .int .u64 t.f1.f2, .int .u64 t.f1.f3, .int .i64 t.f2, .int .i64 t.f3, .int .i64 t.f4, .slice A t.f5.length cp], .int .i64 n, .agg (bl c)] w fun e w' => e = .returned (.tuple #[.int .i64 n', .agg (bl c'), .bool true]) ∧ Below w.heap.size w w')
  (xs : List S27) (n : Int) (c : List Bool)  (n' : Int) (c' : List Bool) (A : Option Addr) (cp : Nat) (w : World) (hm : ∀ x ∈ xs, SizeOf.sizeOf x < m) (hs : ShpL xs (n) c n' c') (hc : c.length = 10) (hn0 : 0 ≤ n) (hn9 : n ≤ 9) (hC : Kd.C k27 w A xs.length xs) (hcp : xs.length ≤ cp) :
  Calls Try.prog 16 #[.agg #[.int .i64 0, .int .u64 0, .int .u64 0, .int .u64 0, .int .u64 0, .int .i64 0, .int .i64 0, .int .i64 0, .slice A xs.length cp], .int .i64 n, .agg (bl c)] w fun e w' => e = .returned (.tuple #[.int .i64 n', .agg (bl c'), .bool true]) ∧ Below w.heap.size w w' := by
 have hu27 := Try.underlying27
 obtain ⟨b0, b1, b2, b3, b4, b5, b6, b7, b8, b9, rfl⟩ := qee hc
 obtain ⟨cc, hcc⟩ : ∃ cc, [b0, b1, b2, b3, b4, b5, b6, b7, b8, b9] = cc := ⟨_, rfl⟩
 have hbl : bl cc = #[.bool b0, .bool b1, .bool b2, .bool b3, .bool b4, .bool b5, .bool b6, .bool b7, .bool b8, .bool b9] := by rw [← hcc]; rfl
 have hlen : cc.length = 10 := by rw [← hcc]; rfl
 rw [hcc] at hs ⊢
 rw [hbl]
 have HS := qa0.mk hs
 have HC := qa0.mk hC
 have HM := qa0.mk hm
 have HCP := qa0.mk hcp
 have HLEN := qa0.mk hlen
 have HBL := qa0.mk hbl
 have HCC := qa0.mk hcc
 have HN := qa0.mk (And.intro hn0 hn9)
 clear hs hC hm hcp hlen hbl hcc hc
 go_enter Try.func16, Try.ntmps16
 go_wp2
 generalize hW : World.alloc (World.alloc (World.alloc w _) _) _ = W
 have HT : qa0 (W.heap[w.heap.size]? = some (.cells #[.int .i64 0, .int .u64 0, .int .u64 0, .int .u64 0, .int .u64 0, .int .i64 0, .int .i64 0, .int .i64 0, .slice A xs.length cp] 27 (0, 0))) := ⟨by rw [← hW]; exact qa3 (qa3 (qat w _) _) _⟩
 have HG : qa0 (W.heap[w.heap.size + 1]? = some (.cells (bl cc) 38 (0, 0))) := ⟨by rw [← hW, HBL.out]; refine qa3 ?_ _; have hq := qat (w.alloc (.cells #[.int .i64 0, .int .u64 0, .int .u64 0, .int .u64 0, .int .u64 0, .int .i64 0, .int .i64 0, .int .i64 0, .slice A xs.length cp] 27 (0, 0))) (.cells #[.bool b0, .bool b1, .bool b2, .bool b3, .bool b4, .bool b5, .bool b6, .bool b7, .bool b8, .bool b9] 38 (0, 0)); rw [World.size_alloc] at hq; exact hq⟩
 have HR : qa0 (W.heap[w.heap.size + 1 + 1]? = some (.cells (bl (List.replicate 10 false)) 38 (0, 0))) := ⟨by rw [← hW]; have hq := qat ((w.alloc (.cells #[.int .i64 0, .int .u64 0, .int .u64 0, .int .u64 0, .int .u64 0, .int .i64 0, .int .i64 0, .int .i64 0, .slice A xs.length cp] 27 (0, 0))).alloc (.cells #[.bool b0, .bool b1, .bool b2, .bool b3, .bool b4, .bool b5, .bool b6, .bool b7, .bool b8, .bool b9] 38 (0, 0))) (.cells (bl (List.replicate 10 false)) 38 (0, 0)); rw [World.size_alloc, World.size_alloc] at hq; exact hq⟩
 have HB : qa0 (Below w.heap.size w W) := ⟨by rw [← hW]; exact qa6 (qa6 (qa6 (Below.refl _ _) _) _) _⟩
 clear hW HBL HCC
 obtain ⟨gr, hgr⟩ : ∃ k, w.heap.size + 1 + 1 = k := ⟨_, rfl⟩
 rw [hgr] at HR ⊢
 obtain ⟨gc, hgc⟩ : ∃ k, w.heap.size + 1 = k := ⟨_, rfl⟩
 rw [hgc] at HG hgr ⊢
 have HNE : qa0 (w.heap.size < gc ∧ gc < gr) := ⟨by omega⟩
 clear hgr hgc
 go_loopw [1, 9, 10] (fun v1 v9 v10 w' => ∃ (j : Nat) (xj n1 : Int) (c1 : List Bool), v1 = .int .i64 n1 ∧ v9 = .bool true ∧ v10 = .int .i64 xj ∧ qa0 ((j : Int) = xj) ∧ qa0 (j ≤ xs.length) ∧ qa0 (ShpL (xs.drop j) n1 c1 n' c') ∧ qa0 (c1.length = 10 ∧ 0 ≤ n1 ∧ n1 ≤ 9) ∧ qa0 (w'.heap[w.heap.size]? = some (.cells #[.int .i64 0, .int .u64 0, .int .u64 0, .int .u64 0, .int .u64 0, .int .i64 0, .int .i64 0, .int .i64 0, .slice A xs.length cp] 27 (0, 0))) ∧ qa0 (w'.heap[gc]? = some (.cells (bl c1) 38 (0, 0))) ∧ qa0 (w'.heap[gr]? = some (.cells (bl (List.replicate 10 false)) 38 (0, 0))) ∧ qa0 (Below w.heap.size w w'))
  (fun _ _ v10 _ => xs.length - (intOf v10).toNat)
 case atStart => exact ⟨0, 0, n, cc, rfl, rfl, rfl, ⟨rfl⟩, ⟨Nat.zero_le _⟩, HS, ⟨HLEN.out, by have := HN.out; omega, by have := HN.out; first | omega | (have := HGN.out; have := HG9.out; omega)⟩, HT, HG, HR, HB⟩
 case round =>
  clear HS HT HG HR HB HLEN
  obtain ⟨j, xj, n1, c1, rfl, rfl, rfl, HXJ, HJ, HS, HN1, HT, HG, HR, HB⟩ := hrel
  have hc8 : wr.cell? ⟨w.heap.size, 8, none⟩ = some (.slice A xs.length cp) := (qa2 HT.out 8).trans rfl
  by_cases hlt : j < xs.length
  ·have hxlt : xj < (xs.length : Int) := by have := HXJ.out; omega
   have hx0 : 0 ≤ xj := by have := HXJ.out; omega
   have hq : decide (xj < (xs.length : Int)) = true := decide_eq_true hxlt
   have hsp := HS.out
   have hxe : (qag xs xj) = xs[j] := by rw [← HXJ.out]; unfold qag; rw [Int.toNat_natCast, List.getD_eq_getElem?_getD, List.getElem?_eq_getElem hlt]; rfl
   rw [List.drop_eq_getElem_cons hlt, ← hxe] at hsp
   obtain ⟨n2, c2, hs1, hs2⟩ := hsp
   have hmx : SizeOf.sizeOf (qag xs xj) < m := by rw [hxe]; exact HM.out _ (List.getElem_mem hlt)
   have HI := qa0.mk (qfz m _ _ _ _ _ hmx hs1)
   have HS1 := qa0.mk hs1
   have HS2 := qa0.mk hs2
   have HMX := qa0.mk hmx
   have HLT := qa0.mk hlt
   clear HS hs1 hs2 hmx hxe hlt
   obtain ⟨ad, A8, c8, hA, k0, k1, k2, k3, k4, k5, k6, k7, k8, hl8, hC8⟩ := qdo HC.out xj hx0 hxlt
   obtain ⟨pd, hpd⟩ : ∃ p, ad.add (xj.toNat * 9) = p := ⟨_, rfl⟩
   rw [hpd] at k0 k1 k2 k3 k4 k5 k6 k7 k8
   have HPD := qa0.mk hpd
   have HK0 := qa0.mk k0
   have HK1 := qa0.mk k1
   have HK2 := qa0.mk k2
   have HK3 := qa0.mk k3
   have HK4 := qa0.mk k4
   have HK5 := qa0.mk k5
   have HK6 := qa0.mk k6
   have HK7 := qa0.mk k7
   have HK8 := qa0.mk k8
   have HC8 := qa0.mk hC8
   have HL8 := qa0.mk hl8
   have HX0 := qa0.mk hx0
   have HXL := qa0.mk hxlt
   have HA := qa0.mk hA
   clear k0 k1 k2 k3 k4 k5 k6 k7 k8 hpd hC8 hl8 hx0 hxlt hA
   have hA := HA.out
   cases hA
   go_wp2
   refine qh9 (gb := w.heap.size) (gc := gc) (xj := xj) (n1 := n1) (n2 := n2) (c1 := c1) (c2 := c2) (X := (qag xs xj)) rfl rfl rfl rfl rfl hc8 HX0.out HXL.out HPD.out ((HB.out.cell (World.block_lt_of_cell? w _ HK0.out)).trans HK0.out) ((HB.out.cell (World.block_lt_of_cell? w _ HK1.out)).trans HK1.out) ((HB.out.cell (World.block_lt_of_cell? w _ HK2.out)).trans HK2.out) ((HB.out.cell (World.block_lt_of_cell? w _ HK3.out)).trans HK3.out) ((HB.out.cell (World.block_lt_of_cell? w _ HK4.out)).trans HK4.out) ((HB.out.cell (World.block_lt_of_cell? w _ HK5.out)).trans HK5.out) ((HB.out.cell (World.block_lt_of_cell? w _ HK6.out)).trans HK6.out) ((HB.out.cell (World.block_lt_of_cell? w _ HK7.out)).trans HK7.out) ((HB.out.cell (World.block_lt_of_cell? w _ HK8.out)).trans HK8.out) HN1.out.1 (HI.out.1.trans HN1.out.1) HG.out (ih (qag xs xj) n1 c1 n2 c2 A8 c8 wr.drew HMX.out HS1.out HN1.out.1 HN1.out.2.1 HN1.out.2.2 (Kd.qdp HC8.out (qa8 HB.out)) HL8.out) ?_
   intro w3 hb3
   simp only [qfe, qb0, if_true, Act.put, List.setIfInBounds_toArray, List.set_cons_zero, List.set_cons_succ]
   have HT3 := qa0.mk (qde (cells := bl c2) (qae (qa5 HT.out) hb3) (Nat.ne_of_lt HNE.out.1))
   have HR3 := qa0.mk (qde (cells := bl c2) (qae (qa5 HR.out) hb3) (Nat.ne_of_gt HNE.out.2))
   have HG3 := qa0.mk (qcx (cells := bl c2) (qae (qa5 HG.out) hb3))
   have HB3 : qa0 (Below w.heap.size w (w3.setRow gc (bl c2))) := ⟨below_setRow ((qa8 HB.out).trans (hb3.mono HB.out.size)) (Nat.le_of_lt HNE.out.1) _⟩
   generalize hw5 : w3.setRow gc (bl c2) = w5 at HT3 HR3 HG3 HB3 ⊢
   clear HT HG HR HB hb3 hw5 hc8 hq
   have hw1 : wrap64 (xj + 1) = xj + 1 := qbt (by have := HX0.out; omega) (by have := HXL.out; have := HC.out.2.1; omega)
   have HW1 := qa0.mk hw1
   clear hw1
   go_wp2
   go_roundw
   case rel => exact ⟨j + 1, wrap64 (xj + 1), n2, c2, rfl, rfl, (by first | rfl | (rw [HW1.out])), ⟨by rw [HW1.out, ← HXJ.out]; rfl⟩, ⟨HLT.out⟩, HS2, ⟨HI.out.1.trans HN1.out.1, Int.le_trans HN1.out.2.1 HI.out.2.1, HI.out.2.2 HN1.out.2.2⟩, HT3, HG3, HR3, HB3⟩
   case measure =>
    have h2 := HXJ.out
    have h3 : xj + 1 = ((j + 1 : Nat) : Int) := by rw [← h2]; rfl
    first | rw [HW1.out, h3, ← h2] | rw [h3, ← h2] | rw [← h2]
    have := HLT.out
    clear h2 h3
    simp only [intOf, List.getElem?_toArray, List.getElem?_cons_succ, List.getElem?_cons_zero, Int.toNat_natCast, Array.getD_eq_getD_getElem?, Option.getD_some]
    omega
  ·have hq : decide (xj < (xs.length : Int)) = false := decide_eq_false (by have := HXJ.out; omega)
   have hd := HS.out
   rw [List.drop_eq_nil_of_le (by omega)] at hd
   obtain ⟨rfl, rfl⟩ := hd
   have hc0 : wr.cell? ⟨w.heap.size, 0, none⟩ = some (.int .i64 0) := (qa2 HT.out 0).trans rfl
   clear hlt
   go_wp2
   clear hc8 hq hc0
   have HLE := qa0.mk HN1.out.1
   have HG6 := HG
   have HR6 := HR
   have HB6 := HB
   refine qem (c1 := c') rfl rfl rfl rfl rfl HLE.out rfl HG6.out HR6.out ?_
   simp only [qe5, qb0, if_true, Act.put, List.setIfInBounds_toArray, List.set_cons_zero, List.set_cons_succ]
   have HR3 := qa0.mk (qcx (cells := bl c') (qa5 HR6.out))
   have HB3 := qa0.mk (below_setRow (qa8 HB6.out) (Nat.le_of_lt (Nat.lt_trans HNE.out.1 HNE.out.2)) (bl c'))
   generalize hw5 : World.setRow _ gr (bl c') = w5 at HR3 HB3 ⊢
   clear HT HG HR HB HG6 HR6 HB6 hw5
   go_wp2
   refine bodyPost_ret (qb3 (rs := [.tmp 6, .cell 7 38, .tmp 8]) rfl (by simp) (.tmp (.cell gr _ _ (0, 0) _ rfl HR3.out Try.underlying38 rfl (by rw [qdf HLE.out]; kernel_rfl) (.tmp .nil)))) rfl ?_
   exact ⟨rfl, HB3.out⟩
set_option maxHeartbeats 8000000 in
set_option maxRecDepth 100000 in
theorem shaped_1 (m : Nat) (ih : ∀ (t : S27) (n : Int) (c : List Bool) (n' : Int) (c' : List Bool) (A : Option Addr) (cp : Nat) (w : World), SizeOf.sizeOf t < m → Shp t n c n' c' → c.length = 10 → 0 ≤ n → n ≤ 9 → Kd.C k27 w A t.f5.length t.f5 → t.f5.length ≤ cp →
   Calls Try.prog 16 #[.agg #[.int .i64 t.f0, .int .u64 t.f1.f0, .int .u64 t.f1.f1, .int .u64 t.f1.f2, .int .u64 t.f1.f3, .int .i64 t.f2, .int .i64 t.f3, .int .i64 t.f4, .slice A t.f5.length cp], .int .i64 n, .agg (bl c)] w fun e w' => e = .returned (.tuple #[.int .i64 n', .agg (bl c'), .bool true]) ∧ Below w.heap.size w w')
  (xs : List S27) (n : Int) (c : List Bool) (s0 s1 s2 s3 : Int) (hx0 : xs = []) (n' : Int) (c' : List Bool) (A : Option Addr) (cp : Nat) (w : World) (hm : ∀ x ∈ xs, SizeOf.sizeOf x < m) (hs : ShpL xs (n) c n' c') (hc : c.length = 10) (hn0 : 0 ≤ n) (hn9 : n ≤ 9) (hC : Kd.C k27 w A xs.length xs) (hcp : xs.length ≤ cp) :
  Calls Try.prog 16 #[.agg #[.int .i64 1, .int .u64 s0, .int .u64 s1, .int .u64 s2, .int .u64 s3, .int .i64 0, .int .i64 0, .int .i64 0, .slice A xs.length cp], .int .i64 n, .agg (bl c)] w fun e w' => e = .returned (.tuple #[.int .i64 n', .agg (bl c'), .bool true]) ∧ Below w.heap.size w w' := by
 have hu27 := Try.underlying27
 obtain ⟨b0, b1, b2, b3, b4, b5, b6, b7, b8, b9, rfl⟩ := qee hc
 obtain ⟨cc, hcc⟩ : ∃ cc, [b0, b1, b2, b3, b4, b5, b6, b7, b8, b9] = cc := ⟨_, rfl⟩
 have hbl : bl cc = #[.bool b0, .bool b1, .bool b2, .bool b3, .bool b4, .bool b5, .bool b6, .bool b7, .bool b8, .bool b9] := by rw [← hcc]; rfl
 have hlen : cc.length = 10 := by rw [← hcc]; rfl
 rw [hcc] at hs ⊢
 rw [hbl]
 have HS := qa0.mk hs
 have HC := qa0.mk hC
 have HM := qa0.mk hm
 have HCP := qa0.mk hcp
 have HLEN := qa0.mk hlen
 have HBL := qa0.mk hbl
 have HCC := qa0.mk hcc
 have hl0 : ((xs.length : Int) == 0) = true := by rw [hx0]; rfl
 have HX0E := qa0.mk hx0
 clear hx0
 have HN := qa0.mk (And.intro hn0 hn9)
 clear hs hC hm hcp hlen hbl hcc hc
 go_enter Try.func16, Try.ntmps16
 go_wp2
 generalize hW : World.alloc (World.alloc (World.alloc w _) _) _ = W
 have HT : qa0 (W.heap[w.heap.size]? = some (.cells #[.int .i64 1, .int .u64 s0, .int .u64 s1, .int .u64 s2, .int .u64 s3, .int .i64 0, .int .i64 0, .int .i64 0, .slice A xs.length cp] 27 (0, 0))) := ⟨by rw [← hW]; exact qa3 (qa3 (qat w _) _) _⟩
 have HG : qa0 (W.heap[w.heap.size + 1]? = some (.cells (bl cc) 38 (0, 0))) := ⟨by rw [← hW, HBL.out]; refine qa3 ?_ _; have hq := qat (w.alloc (.cells #[.int .i64 1, .int .u64 s0, .int .u64 s1, .int .u64 s2, .int .u64 s3, .int .i64 0, .int .i64 0, .int .i64 0, .slice A xs.length cp] 27 (0, 0))) (.cells #[.bool b0, .bool b1, .bool b2, .bool b3, .bool b4, .bool b5, .bool b6, .bool b7, .bool b8, .bool b9] 38 (0, 0)); rw [World.size_alloc] at hq; exact hq⟩
 have HR : qa0 (W.heap[w.heap.size + 1 + 1]? = some (.cells (bl (List.replicate 10 false)) 38 (0, 0))) := ⟨by rw [← hW]; have hq := qat ((w.alloc (.cells #[.int .i64 1, .int .u64 s0, .int .u64 s1, .int .u64 s2, .int .u64 s3, .int .i64 0, .int .i64 0, .int .i64 0, .slice A xs.length cp] 27 (0, 0))).alloc (.cells #[.bool b0, .bool b1, .bool b2, .bool b3, .bool b4, .bool b5, .bool b6, .bool b7, .bool b8, .bool b9] 38 (0, 0))) (.cells (bl (List.replicate 10 false)) 38 (0, 0)); rw [World.size_alloc, World.size_alloc] at hq; exact hq⟩
 have HB : qa0 (Below w.heap.size w W) := ⟨by rw [← hW]; exact qa6 (qa6 (qa6 (Below.refl _ _) _) _) _⟩
 clear hW HBL HCC
 obtain ⟨gr, hgr⟩ : ∃ k, w.heap.size + 1 + 1 = k := ⟨_, rfl⟩
 rw [hgr] at HR ⊢
 obtain ⟨gc, hgc⟩ : ∃ k, w.heap.size + 1 = k := ⟨_, rfl⟩
 rw [hgc] at HG hgr ⊢
 have HNE : qa0 (w.heap.size < gc ∧ gc < gr) := ⟨by omega⟩
 clear hgr hgc
 go_loopw [1, 9, 10] (fun v1 v9 v10 w' => ∃ (j : Nat) (xj n1 : Int) (c1 : List Bool), v1 = .int .i64 n1 ∧ v9 = .bool true ∧ v10 = .int .i64 xj ∧ qa0 ((j : Int) = xj) ∧ qa0 (j ≤ xs.length) ∧ qa0 (ShpL (xs.drop j) n1 c1 n' c') ∧ qa0 (c1.length = 10 ∧ 0 ≤ n1 ∧ n1 ≤ 9) ∧ qa0 (w'.heap[w.heap.size]? = some (.cells #[.int .i64 1, .int .u64 s0, .int .u64 s1, .int .u64 s2, .int .u64 s3, .int .i64 0, .int .i64 0, .int .i64 0, .slice A xs.length cp] 27 (0, 0))) ∧ qa0 (w'.heap[gc]? = some (.cells (bl c1) 38 (0, 0))) ∧ qa0 (w'.heap[gr]? = some (.cells (bl (List.replicate 10 false)) 38 (0, 0))) ∧ qa0 (Below w.heap.size w w'))
  (fun _ _ v10 _ => xs.length - (intOf v10).toNat)
 case atStart => exact ⟨0, 0, n, cc, rfl, rfl, rfl, ⟨rfl⟩, ⟨Nat.zero_le _⟩, HS, ⟨HLEN.out, by have := HN.out; omega, by have := HN.out; first | omega | (have := HGN.out; have := HG9.out; omega)⟩, HT, HG, HR, HB⟩
 case round =>
  clear HS HT HG HR HB HLEN
  obtain ⟨j, xj, n1, c1, rfl, rfl, rfl, HXJ, HJ, HS, HN1, HT, HG, HR, HB⟩ := hrel
  have hc8 : wr.cell? ⟨w.heap.size, 8, none⟩ = some (.slice A xs.length cp) := (qa2 HT.out 8).trans rfl
  by_cases hlt : j < xs.length
  ·exact absurd hlt (by rw [HX0E.out]; exact Nat.not_lt_zero _)
  ·have hq : decide (xj < (xs.length : Int)) = false := decide_eq_false (by have := HXJ.out; omega)
   have hd := HS.out
   rw [List.drop_eq_nil_of_le (by omega)] at hd
   obtain ⟨rfl, rfl⟩ := hd
   have hc0 : wr.cell? ⟨w.heap.size, 0, none⟩ = some (.int .i64 1) := (qa2 HT.out 0).trans rfl
   clear hlt
   go_wp2
   clear hc8 hq hc0
   have HLE := qa0.mk HN1.out.1
   have HG6 := HG
   have HR6 := HR
   have HB6 := HB
   refine qem (c1 := c') rfl rfl rfl rfl rfl HLE.out rfl HG6.out HR6.out ?_
   simp only [qe5, qb0, if_true, Act.put, List.setIfInBounds_toArray, List.set_cons_zero, List.set_cons_succ]
   have HR3 := qa0.mk (qcx (cells := bl c') (qa5 HR6.out))
   have HB3 := qa0.mk (below_setRow (qa8 HB6.out) (Nat.le_of_lt (Nat.lt_trans HNE.out.1 HNE.out.2)) (bl c'))
   generalize hw5 : World.setRow _ gr (bl c') = w5 at HR3 HB3 ⊢
   clear HT HG HR HB HG6 HR6 HB6 hw5
   go_wp2
   refine bodyPost_ret (qb3 (rs := [.tmp 6, .cell 7 38, .tmp 8]) rfl (by simp) (.tmp (.cell gr _ _ (0, 0) _ rfl HR3.out Try.underlying38 rfl (by rw [qdf HLE.out]; kernel_rfl) (.tmp .nil)))) rfl ?_
   exact ⟨rfl, HB3.out⟩
set_option maxHeartbeats 8000000 in
set_option maxRecDepth 100000 in
theorem shaped_2 (m : Nat) (ih : ∀ (t : S27) (n : Int) (c : List Bool) (n' : Int) (c' : List Bool) (A : Option Addr) (cp : Nat) (w : World), SizeOf.sizeOf t < m → Shp t n c n' c' → c.length = 10 → 0 ≤ n → n ≤ 9 → Kd.C k27 w A t.f5.length t.f5 → t.f5.length ≤ cp →
   Calls Try.prog 16 #[.agg #[.int .i64 t.f0, .int .u64 t.f1.f0, .int .u64 t.f1.f1, .int .u64 t.f1.f2, .int .u64 t.f1.f3, .int .i64 t.f2, .int .i64 t.f3, .int .i64 t.f4, .slice A t.f5.length cp], .int .i64 n, .agg (bl c)] w fun e w' => e = .returned (.tuple #[.int .i64 n', .agg (bl c'), .bool true]) ∧ Below w.heap.size w w')
  (xs : List S27) (n : Int) (c : List Bool) (hx0 : xs = []) (n' : Int) (c' : List Bool) (A : Option Addr) (cp : Nat) (w : World) (hm : ∀ x ∈ xs, SizeOf.sizeOf x < m) (hs : ShpL xs (n) c n' c') (hc : c.length = 10) (hn0 : 0 ≤ n) (hn9 : n ≤ 9) (hC : Kd.C k27 w A xs.length xs) (hcp : xs.length ≤ cp) :
  Calls Try.prog 16 #[.agg #[.int .i64 2, .int .u64 0, .int .u64 0, .int .u64 0, .int .u64 0, .int .i64 0, .int .i64 0, .int .i64 0, .slice A xs.length cp], .int .i64 n, .agg (bl c)] w fun e w' => e = .returned (.tuple #[.int .i64 n', .agg (bl c'), .bool true]) ∧ Below w.heap.size w w' := by
 have hu27 := Try.underlying27
 obtain ⟨b0, b1, b2, b3, b4, b5, b6, b7, b8, b9, rfl⟩ := qee hc
 obtain ⟨cc, hcc⟩ : ∃ cc, [b0, b1, b2, b3, b4, b5, b6, b7, b8, b9] = cc := ⟨_, rfl⟩
 have hbl : bl cc = #[.bool b0, .bool b1, .bool b2, .bool b3, .bool b4, .bool b5, .bool b6, .bool b7, .bool b8, .bool b9] := by rw [← hcc]; rfl
 have hlen : cc.length = 10 := by rw [← hcc]; rfl
 rw [hcc] at hs ⊢
 rw [hbl]
 have HS := qa0.mk hs
 have HC := qa0.mk hC
 have HM := qa0.mk hm
 have HCP := qa0.mk hcp
 have HLEN := qa0.mk hlen
 have HBL := qa0.mk hbl
 have HCC := qa0.mk hcc
 have hl0 : ((xs.length : Int) == 0) = true := by rw [hx0]; rfl
 have HX0E := qa0.mk hx0
 clear hx0
 have HN := qa0.mk (And.intro hn0 hn9)
 clear hs hC hm hcp hlen hbl hcc hc
 go_enter Try.func16, Try.ntmps16
 go_wp2
 generalize hW : World.alloc (World.alloc (World.alloc w _) _) _ = W
 have HT : qa0 (W.heap[w.heap.size]? = some (.cells #[.int .i64 2, .int .u64 0, .int .u64 0, .int .u64 0, .int .u64 0, .int .i64 0, .int .i64 0, .int .i64 0, .slice A xs.length cp] 27 (0, 0))) := ⟨by rw [← hW]; exact qa3 (qa3 (qat w _) _) _⟩
 have HG : qa0 (W.heap[w.heap.size + 1]? = some (.cells (bl cc) 38 (0, 0))) := ⟨by rw [← hW, HBL.out]; refine qa3 ?_ _; have hq := qat (w.alloc (.cells #[.int .i64 2, .int .u64 0, .int .u64 0, .int .u64 0, .int .u64 0, .int .i64 0, .int .i64 0, .int .i64 0, .slice A xs.length cp] 27 (0, 0))) (.cells #[.bool b0, .bool b1, .bool b2, .bool b3, .bool b4, .bool b5, .bool b6, .bool b7, .bool b8, .bool b9] 38 (0, 0)); rw [World.size_alloc] at hq; exact hq⟩
 have HR : qa0 (W.heap[w.heap.size + 1 + 1]? = some (.cells (bl (List.replicate 10 false)) 38 (0, 0))) := ⟨by rw [← hW]; have hq := qat ((w.alloc (.cells #[.int .i64 2, .int .u64 0, .int .u64 0, .int .u64 0, .int .u64 0, .int .i64 0, .int .i64 0, .int .i64 0, .slice A xs.length cp] 27 (0, 0))).alloc (.cells #[.bool b0, .bool b1, .bool b2, .bool b3, .bool b4, .bool b5, .bool b6, .bool b7, .bool b8, .bool b9] 38 (0, 0))) (.cells (bl (List.replicate 10 false)) 38 (0, 0)); rw [World.size_alloc, World.size_alloc] at hq; exact hq⟩
 have HB : qa0 (Below w.heap.size w W) := ⟨by rw [← hW]; exact qa6 (qa6 (qa6 (Below.refl _ _) _) _) _⟩
 clear hW HBL HCC
 obtain ⟨gr, hgr⟩ : ∃ k, w.heap.size + 1 + 1 = k := ⟨_, rfl⟩
 rw [hgr] at HR ⊢
 obtain ⟨gc, hgc⟩ : ∃ k, w.heap.size + 1 = k := ⟨_, rfl⟩
 rw [hgc] at HG hgr ⊢
 have HNE : qa0 (w.heap.size < gc ∧ gc < gr) := ⟨by omega⟩
 clear hgr hgc
 go_loopw [1, 9, 10] (fun v1 v9 v10 w' => ∃ (j : Nat) (xj n1 : Int) (c1 : List Bool), v1 = .int .i64 n1 ∧ v9 = .bool true ∧ v10 = .int .i64 xj ∧ qa0 ((j : Int) = xj) ∧ qa0 (j ≤ xs.length) ∧ qa0 (ShpL (xs.drop j) n1 c1 n' c') ∧ qa0 (c1.length = 10 ∧ 0 ≤ n1 ∧ n1 ≤ 9) ∧ qa0 (w'.heap[w.heap.size]? = some (.cells #[.int .i64 2, .int .u64 0, .int .u64 0, .int .u64 0, .int .u64 0, .int .i64 0, .int .i64 0, .int .i64 0, .slice A xs.length cp] 27 (0, 0))) ∧ qa0 (w'.heap[gc]? = some (.cells (bl c1) 38 (0, 0))) ∧ qa0 (w'.heap[gr]? = some (.cells (bl (List.replicate 10 false)) 38 (0, 0))) ∧ qa0 (Below w.heap.size w w'))
  (fun _ _ v10 _ => xs.length - (intOf v10).toNat)
 case atStart => exact ⟨0, 0, n, cc, rfl, rfl, rfl, ⟨rfl⟩, ⟨Nat.zero_le _⟩, HS, ⟨HLEN.out, by have := HN.out; omega, by have := HN.out; first | omega | (have := HGN.out; have := HG9.out; omega)⟩, HT, HG, HR, HB⟩
 case round =>
  clear HS HT HG HR HB HLEN
  obtain ⟨j, xj, n1, c1, rfl, rfl, rfl, HXJ, HJ, HS, HN1, HT, HG, HR, HB⟩ := hrel
  have hc8 : wr.cell? ⟨w.heap.size, 8, none⟩ = some (.slice A xs.length cp) := (qa2 HT.out 8).trans rfl
  by_cases hlt : j < xs.length
  ·exact absurd hlt (by rw [HX0E.out]; exact Nat.not_lt_zero _)
  ·have hq : decide (xj < (xs.length : Int)) = false := decide_eq_false (by have := HXJ.out; omega)
   have hd := HS.out
   rw [List.drop_eq_nil_of_le (by omega)] at hd
   obtain ⟨rfl, rfl⟩ := hd
   have hc0 : wr.cell? ⟨w.heap.size, 0, none⟩ = some (.int .i64 2) := (qa2 HT.out 0).trans rfl
   clear hlt
   go_wp2
   clear hc8 hq hc0
   have HLE := qa0.mk HN1.out.1
   have HG6 := HG
   have HR6 := HR
   have HB6 := HB
   refine qem (c1 := c') rfl rfl rfl rfl rfl HLE.out rfl HG6.out HR6.out ?_
   simp only [qe5, qb0, if_true, Act.put, List.setIfInBounds_toArray, List.set_cons_zero, List.set_cons_succ]
   have HR3 := qa0.mk (qcx (cells := bl c') (qa5 HR6.out))
   have HB3 := qa0.mk (below_setRow (qa8 HB6.out) (Nat.le_of_lt (Nat.lt_trans HNE.out.1 HNE.out.2)) (bl c'))
   generalize hw5 : World.setRow _ gr (bl c') = w5 at HR3 HB3 ⊢
   clear HT HG HR HB HG6 HR6 HB6 hw5
   go_wp2
   refine bodyPost_ret (qb3 (rs := [.tmp 6, .cell 7 38, .tmp 8]) rfl (by simp) (.tmp (.cell gr _ _ (0, 0) _ rfl HR3.out Try.underlying38 rfl (by rw [qdf HLE.out]; kernel_rfl) (.tmp .nil)))) rfl ?_
   exact ⟨rfl, HB3.out⟩
set_option maxHeartbeats 8000000 in
set_option maxRecDepth 100000 in
theorem shaped_3 (m : Nat) (ih : ∀ (t : S27) (n : Int) (c : List Bool) (n' : Int) (c' : List Bool) (A : Option Addr) (cp : Nat) (w : World), SizeOf.sizeOf t < m → Shp t n c n' c' → c.length = 10 → 0 ≤ n → n ≤ 9 → Kd.C k27 w A t.f5.length t.f5 → t.f5.length ≤ cp →
   Calls Try.prog 16 #[.agg #[.int .i64 t.f0, .int .u64 t.f1.f0, .int .u64 t.f1.f1, .int .u64 t.f1.f2, .int .u64 t.f1.f3, .int .i64 t.f2, .int .i64 t.f3, .int .i64 t.f4, .slice A t.f5.length cp], .int .i64 n, .agg (bl c)] w fun e w' => e = .returned (.tuple #[.int .i64 n', .agg (bl c'), .bool true]) ∧ Below w.heap.size w w')
  (xs : List S27) (n : Int) (c : List Bool) (hx0 : xs = []) (n' : Int) (c' : List Bool) (A : Option Addr) (cp : Nat) (w : World) (hm : ∀ x ∈ xs, SizeOf.sizeOf x < m) (hs : ShpL xs (n) c n' c') (hc : c.length = 10) (hn0 : 0 ≤ n) (hn9 : n ≤ 9) (hC : Kd.C k27 w A xs.length xs) (hcp : xs.length ≤ cp) :
  Calls Try.prog 16 #[.agg #[.int .i64 3, .int .u64 0, .int .u64 0, .int .u64 0, .int .u64 0, .int .i64 0, .int .i64 0, .int .i64 0, .slice A xs.length cp], .int .i64 n, .agg (bl c)] w fun e w' => e = .returned (.tuple #[.int .i64 n', .agg (bl c'), .bool true]) ∧ Below w.heap.size w w' := by
 have hu27 := Try.underlying27
 obtain ⟨b0, b1, b2, b3, b4, b5, b6, b7, b8, b9, rfl⟩ := qee hc
 obtain ⟨cc, hcc⟩ : ∃ cc, [b0, b1, b2, b3, b4, b5, b6, b7, b8, b9] = cc := ⟨_, rfl⟩
 have hbl : bl cc = #[.bool b0, .bool b1, .bool b2, .bool b3, .bool b4, .bool b5, .bool b6, .bool b7, .bool b8, .bool b9] := by rw [← hcc]; rfl
 have hlen : cc.length = 10 := by rw [← hcc]; rfl
 rw [hcc] at hs ⊢
 rw [hbl]
 have HS := qa0.mk hs
 have HC := qa0.mk hC
 have HM := qa0.mk hm
 have HCP := qa0.mk hcp
 have HLEN := qa0.mk hlen
 have HBL := qa0.mk hbl
 have HCC := qa0.mk hcc
 have hl0 : ((xs.length : Int) == 0) = true := by rw [hx0]; rfl
 have HX0E := qa0.mk hx0
 clear hx0
 have HN := qa0.mk (And.intro hn0 hn9)
 clear hs hC hm hcp hlen hbl hcc hc
 go_enter Try.func16, Try.ntmps16
 go_wp2
 generalize hW : World.alloc (World.alloc (World.alloc w _) _) _ = W
 have HT : qa0 (W.heap[w.heap.size]? = some (.cells #[.int .i64 3, .int .u64 0, .int .u64 0, .int .u64 0, .int .u64 0, .int .i64 0, .int .i64 0, .int .i64 0, .slice A xs.length cp] 27 (0, 0))) := ⟨by rw [← hW]; exact qa3 (qa3 (qat w _) _) _⟩
 have HG : qa0 (W.heap[w.heap.size + 1]? = some (.cells (bl cc) 38 (0, 0))) := ⟨by rw [← hW, HBL.out]; refine qa3 ?_ _; have hq := qat (w.alloc (.cells #[.int .i64 3, .int .u64 0, .int .u64 0, .int .u64 0, .int .u64 0, .int .i64 0, .int .i64 0, .int .i64 0, .slice A xs.length cp] 27 (0, 0))) (.cells #[.bool b0, .bool b1, .bool b2, .bool b3, .bool b4, .bool b5, .bool b6, .bool b7, .bool b8, .bool b9] 38 (0, 0)); rw [World.size_alloc] at hq; exact hq⟩
 have HR : qa0 (W.heap[w.heap.size + 1 + 1]? = some (.cells (bl (List.replicate 10 false)) 38 (0, 0))) := ⟨by rw [← hW]; have hq := qat ((w.alloc (.cells #[.int .i64 3, .int .u64 0, .int .u64 0, .int .u64 0, .int .u64 0, .int .i64 0, .int .i64 0, .int .i64 0, .slice A xs.length cp] 27 (0, 0))).alloc (.cells #[.bool b0, .bool b1, .bool b2, .bool b3, .bool b4, .bool b5, .bool b6, .bool b7, .bool b8, .bool b9] 38 (0, 0))) (.cells (bl (List.replicate 10 false)) 38 (0, 0)); rw [World.size_alloc, World.size_alloc] at hq; exact hq⟩
 have HB : qa0 (Below w.heap.size w W) := ⟨by rw [← hW]; exact qa6 (qa6 (qa6 (Below.refl _ _) _) _) _⟩
 clear hW HBL HCC
 obtain ⟨gr, hgr⟩ : ∃ k, w.heap.size + 1 + 1 = k := ⟨_, rfl⟩
 rw [hgr] at HR ⊢
 obtain ⟨gc, hgc⟩ : ∃ k, w.heap.size + 1 = k := ⟨_, rfl⟩
 rw [hgc] at HG hgr ⊢
 have HNE : qa0 (w.heap.size < gc ∧ gc < gr) := ⟨by omega⟩
 clear hgr hgc
 go_loopw [1, 9, 10] (fun v1 v9 v10 w' => ∃ (j : Nat) (xj n1 : Int) (c1 : List Bool), v1 = .int .i64 n1 ∧ v9 = .bool true ∧ v10 = .int .i64 xj ∧ qa0 ((j : Int) = xj) ∧ qa0 (j ≤ xs.length) ∧ qa0 (ShpL (xs.drop j) n1 c1 n' c') ∧ qa0 (c1.length = 10 ∧ 0 ≤ n1 ∧ n1 ≤ 9) ∧ qa0 (w'.heap[w.heap.size]? = some (.cells #[.int .i64 3, .int .u64 0, .int .u64 0, .int .u64 0, .int .u64 0, .int .i64 0, .int .i64 0, .int .i64 0, .slice A xs.length cp] 27 (0, 0))) ∧ qa0 (w'.heap[gc]? = some (.cells (bl c1) 38 (0, 0))) ∧ qa0 (w'.heap[gr]? = some (.cells (bl (List.replicate 10 false)) 38 (0, 0))) ∧ qa0 (Below w.heap.size w w'))
  (fun _ _ v10 _ => xs.length - (intOf v10).toNat)
 case atStart => exact ⟨0, 0, n, cc, rfl, rfl, rfl, ⟨rfl⟩, ⟨Nat.zero_le _⟩, HS, ⟨HLEN.out, by have := HN.out; omega, by have := HN.out; first | omega | (have := HGN.out; have := HG9.out; omega)⟩, HT, HG, HR, HB⟩
 case round =>
  clear HS HT HG HR HB HLEN
  obtain ⟨j, xj, n1, c1, rfl, rfl, rfl, HXJ, HJ, HS, HN1, HT, HG, HR, HB⟩ := hrel
  have hc8 : wr.cell? ⟨w.heap.size, 8, none⟩ = some (.slice A xs.length cp) := (qa2 HT.out 8).trans rfl
  by_cases hlt : j < xs.length
  ·exact absurd hlt (by rw [HX0E.out]; exact Nat.not_lt_zero _)
  ·have hq : decide (xj < (xs.length : Int)) = false := decide_eq_false (by have := HXJ.out; omega)
   have hd := HS.out
   rw [List.drop_eq_nil_of_le (by omega)] at hd
   obtain ⟨rfl, rfl⟩ := hd
   have hc0 : wr.cell? ⟨w.heap.size, 0, none⟩ = some (.int .i64 3) := (qa2 HT.out 0).trans rfl
   clear hlt
   go_wp2
   clear hc8 hq hc0
   have HLE := qa0.mk HN1.out.1
   have HG6 := HG
   have HR6 := HR
   have HB6 := HB
   refine qem (c1 := c') rfl rfl rfl rfl rfl HLE.out rfl HG6.out HR6.out ?_
   simp only [qe5, qb0, if_true, Act.put, List.setIfInBounds_toArray, List.set_cons_zero, List.set_cons_succ]
   have HR3 := qa0.mk (qcx (cells := bl c') (qa5 HR6.out))
   have HB3 := qa0.mk (below_setRow (qa8 HB6.out) (Nat.le_of_lt (Nat.lt_trans HNE.out.1 HNE.out.2)) (bl c'))
   generalize hw5 : World.setRow _ gr (bl c') = w5 at HR3 HB3 ⊢
   clear HT HG HR HB HG6 HR6 HB6 hw5
   go_wp2
   refine bodyPost_ret (qb3 (rs := [.tmp 6, .cell 7 38, .tmp 8]) rfl (by simp) (.tmp (.cell gr _ _ (0, 0) _ rfl HR3.out Try.underlying38 rfl (by rw [qdf HLE.out]; kernel_rfl) (.tmp .nil)))) rfl ?_
   exact ⟨rfl, HB3.out⟩
set_option maxHeartbeats 8000000 in
set_option maxRecDepth 100000 in
theorem shaped_4 (m : Nat) (ih : ∀ (t : S27) (n : Int) (c : List Bool) (n' : Int) (c' : List Bool) (A : Option Addr) (cp : Nat) (w : World), SizeOf.sizeOf t < m → Shp t n c n' c' → c.length = 10 → 0 ≤ n → n ≤ 9 → Kd.C k27 w A t.f5.length t.f5 → t.f5.length ≤ cp →
   Calls Try.prog 16 #[.agg #[.int .i64 t.f0, .int .u64 t.f1.f0, .int .u64 t.f1.f1, .int .u64 t.f1.f2, .int .u64 t.f1.f3, .int .i64 t.f2, .int .i64 t.f3, .int .i64 t.f4, .slice A t.f5.length cp], .int .i64 n, .agg (bl c)] w fun e w' => e = .returned (.tuple #[.int .i64 n', .agg (bl c'), .bool true]) ∧ Below w.heap.size w w')
  (xs : List S27) (n : Int) (c : List Bool) (g : Nat) (x : S27) (hx0 : xs = [x]) (hk0 : x.f0 = 0) (hg : (g : Int) = n + 1) (hg9 : g ≤ 9) (n' : Int) (c' : List Bool) (A : Option Addr) (cp : Nat) (w : World) (hm : ∀ x ∈ xs, SizeOf.sizeOf x < m) (hs : ShpL xs ((n + 1)) c n' c') (hc : c.length = 10) (hn0 : 0 ≤ n) (hn9 : n ≤ 9) (hC : Kd.C k27 w A xs.length xs) (hcp : xs.length ≤ cp) :
  Calls Try.prog 16 #[.agg #[.int .i64 4, .int .u64 0, .int .u64 0, .int .u64 0, .int .u64 0, .int .i64 0, .int .i64 0, .int .i64 (g : Int), .slice A xs.length cp], .int .i64 n, .agg (bl c)] w fun e w' => e = .returned (.tuple #[.int .i64 n', .agg (bl (c'.set g true)), .bool true]) ∧ Below w.heap.size w w' := by
 have hu27 := Try.underlying27
 obtain ⟨b0, b1, b2, b3, b4, b5, b6, b7, b8, b9, rfl⟩ := qee hc
 obtain ⟨cc, hcc⟩ : ∃ cc, [b0, b1, b2, b3, b4, b5, b6, b7, b8, b9] = cc := ⟨_, rfl⟩
 have hbl : bl cc = #[.bool b0, .bool b1, .bool b2, .bool b3, .bool b4, .bool b5, .bool b6, .bool b7, .bool b8, .bool b9] := by rw [← hcc]; rfl
 have hlen : cc.length = 10 := by rw [← hcc]; rfl
 rw [hcc] at hs ⊢
 rw [hbl]
 have HS := qa0.mk hs
 have HC := qa0.mk hC
 have HM := qa0.mk hm
 have HCP := qa0.mk hcp
 have HLEN := qa0.mk hlen
 have HBL := qa0.mk hbl
 have HCC := qa0.mk hcc
 have hl1 : ((xs.length : Int) == 1) = true := by rw [hx0]; rfl
 have hl2 : decide (0 < (xs.length : Int)) = true := decide_eq_true (by rw [hx0]; show (0 : Int) < 1; decide)
 have hl3 : (0 < (xs.length : Int)) = True := eq_true (by rw [hx0]; show (0 : Int) < 1; decide)
 have hl4 : 0 < xs.length := by rw [hx0]; show 0 < 1; decide
 obtain ⟨ad0, A8, c8, hA, k0, -⟩ := qdo hC 0 (by decide) (by rw [hx0]; show (0 : Int) < 1; decide)
 subst hA
 have hxe : qag xs 0 = x := by rw [hx0]; rfl
 rw [hxe, show (0 : Int).toNat * 9 = 0 from rfl] at k0
 rw [add00_] at k0
 have HX0E := qa0.mk hx0
 clear hx0 hxe
 rw [hk0] at k0
 have k0a : ∀ o1 o2 o3, (((w.alloc o1).alloc o2).alloc o3).cell? ad0 = _ := fun o1 o2 o3 => ((qa6 (qa6 (qa6 (Below.refl w.heap.size w) o1) o2) o3).cell (World.block_lt_of_cell? w _ k0)).trans k0
 clear k0
 have hge : ((g : Int) == n + 1) = true := by rw [hg]; exact beq_self_eq_true _
 have hgd : decide (n + 1 ≤ 9) = true := decide_eq_true (by omega)
 have HG9 := qa0.mk hg9
 have HGN := qa0.mk hg
 clear hk0 hg hg9
 have HN := qa0.mk (And.intro hn0 hn9)
 clear hs hC hm hcp hlen hbl hcc hc
 go_enter Try.func16, Try.ntmps16
 go_wp2
 clear k0a
 generalize hW : World.alloc (World.alloc (World.alloc w _) _) _ = W
 have HT : qa0 (W.heap[w.heap.size]? = some (.cells #[.int .i64 4, .int .u64 0, .int .u64 0, .int .u64 0, .int .u64 0, .int .i64 0, .int .i64 0, .int .i64 (g : Int), .slice (some ad0) xs.length cp] 27 (0, 0))) := ⟨by rw [← hW]; exact qa3 (qa3 (qat w _) _) _⟩
 have HG : qa0 (W.heap[w.heap.size + 1]? = some (.cells (bl cc) 38 (0, 0))) := ⟨by rw [← hW, HBL.out]; refine qa3 ?_ _; have hq := qat (w.alloc (.cells #[.int .i64 4, .int .u64 0, .int .u64 0, .int .u64 0, .int .u64 0, .int .i64 0, .int .i64 0, .int .i64 (g : Int), .slice (some ad0) xs.length cp] 27 (0, 0))) (.cells #[.bool b0, .bool b1, .bool b2, .bool b3, .bool b4, .bool b5, .bool b6, .bool b7, .bool b8, .bool b9] 38 (0, 0)); rw [World.size_alloc] at hq; exact hq⟩
 have HR : qa0 (W.heap[w.heap.size + 1 + 1]? = some (.cells (bl (List.replicate 10 false)) 38 (0, 0))) := ⟨by rw [← hW]; have hq := qat ((w.alloc (.cells #[.int .i64 4, .int .u64 0, .int .u64 0, .int .u64 0, .int .u64 0, .int .i64 0, .int .i64 0, .int .i64 (g : Int), .slice (some ad0) xs.length cp] 27 (0, 0))).alloc (.cells #[.bool b0, .bool b1, .bool b2, .bool b3, .bool b4, .bool b5, .bool b6, .bool b7, .bool b8, .bool b9] 38 (0, 0))) (.cells (bl (List.replicate 10 false)) 38 (0, 0)); rw [World.size_alloc, World.size_alloc] at hq; exact hq⟩
 have HB : qa0 (Below w.heap.size w W) := ⟨by rw [← hW]; exact qa6 (qa6 (qa6 (Below.refl _ _) _) _) _⟩
 clear hW HBL HCC
 obtain ⟨gr, hgr⟩ : ∃ k, w.heap.size + 1 + 1 = k := ⟨_, rfl⟩
 rw [hgr] at HR ⊢
 obtain ⟨gc, hgc⟩ : ∃ k, w.heap.size + 1 = k := ⟨_, rfl⟩
 rw [hgc] at HG hgr ⊢
 have HNE : qa0 (w.heap.size < gc ∧ gc < gr) := ⟨by omega⟩
 clear hgr hgc
 go_loopw [1, 9, 10] (fun v1 v9 v10 w' => ∃ (j : Nat) (xj n1 : Int) (c1 : List Bool), v1 = .int .i64 n1 ∧ v9 = .bool true ∧ v10 = .int .i64 xj ∧ qa0 ((j : Int) = xj) ∧ qa0 (j ≤ xs.length) ∧ qa0 (ShpL (xs.drop j) n1 c1 n' c') ∧ qa0 (c1.length = 10 ∧ 0 ≤ n1 ∧ n1 ≤ 9) ∧ qa0 (w'.heap[w.heap.size]? = some (.cells #[.int .i64 4, .int .u64 0, .int .u64 0, .int .u64 0, .int .u64 0, .int .i64 0, .int .i64 0, .int .i64 (g : Int), .slice (some ad0) xs.length cp] 27 (0, 0))) ∧ qa0 (w'.heap[gc]? = some (.cells (bl c1) 38 (0, 0))) ∧ qa0 (w'.heap[gr]? = some (.cells (bl (List.replicate 10 false)) 38 (0, 0))) ∧ qa0 (Below w.heap.size w w'))
  (fun _ _ v10 _ => xs.length - (intOf v10).toNat)
 case atStart => exact ⟨0, 0, (n + 1), cc, rfl, rfl, rfl, ⟨rfl⟩, ⟨Nat.zero_le _⟩, HS, ⟨HLEN.out, by have := HN.out; omega, by have := HN.out; first | omega | (have := HGN.out; have := HG9.out; omega)⟩, HT, HG, HR, HB⟩
 case round =>
  clear HS HT HG HR HB HLEN
  obtain ⟨j, xj, n1, c1, rfl, rfl, rfl, HXJ, HJ, HS, HN1, HT, HG, HR, HB⟩ := hrel
  have hc8 : wr.cell? ⟨w.heap.size, 8, none⟩ = some (.slice (some ad0) xs.length cp) := (qa2 HT.out 8).trans rfl
  by_cases hlt : j < xs.length
  ·have hxlt : xj < (xs.length : Int) := by have := HXJ.out; omega
   have hx0 : 0 ≤ xj := by have := HXJ.out; omega
   have hq : decide (xj < (xs.length : Int)) = true := decide_eq_true hxlt
   have hsp := HS.out
   have hxe : (qag xs xj) = xs[j] := by rw [← HXJ.out]; unfold qag; rw [Int.toNat_natCast, List.getD_eq_getElem?_getD, List.getElem?_eq_getElem hlt]; rfl
   rw [List.drop_eq_getElem_cons hlt, ← hxe] at hsp
   obtain ⟨n2, c2, hs1, hs2⟩ := hsp
   have hmx : SizeOf.sizeOf (qag xs xj) < m := by rw [hxe]; exact HM.out _ (List.getElem_mem hlt)
   have HI := qa0.mk (qfz m _ _ _ _ _ hmx hs1)
   have HS1 := qa0.mk hs1
   have HS2 := qa0.mk hs2
   have HMX := qa0.mk hmx
   have HLT := qa0.mk hlt
   clear HS hs1 hs2 hmx hxe hlt
   obtain ⟨ad, A8, c8, hA, k0, k1, k2, k3, k4, k5, k6, k7, k8, hl8, hC8⟩ := qdo HC.out xj hx0 hxlt
   obtain ⟨pd, hpd⟩ : ∃ p, ad.add (xj.toNat * 9) = p := ⟨_, rfl⟩
   rw [hpd] at k0 k1 k2 k3 k4 k5 k6 k7 k8
   have HPD := qa0.mk hpd
   have HK0 := qa0.mk k0
   have HK1 := qa0.mk k1
   have HK2 := qa0.mk k2
   have HK3 := qa0.mk k3
   have HK4 := qa0.mk k4
   have HK5 := qa0.mk k5
   have HK6 := qa0.mk k6
   have HK7 := qa0.mk k7
   have HK8 := qa0.mk k8
   have HC8 := qa0.mk hC8
   have HL8 := qa0.mk hl8
   have HX0 := qa0.mk hx0
   have HXL := qa0.mk hxlt
   have HA := qa0.mk hA
   clear k0 k1 k2 k3 k4 k5 k6 k7 k8 hpd hC8 hl8 hx0 hxlt hA
   have hA := HA.out
   cases hA
   go_wp2
   refine qh9 (gb := w.heap.size) (gc := gc) (xj := xj) (n1 := n1) (n2 := n2) (c1 := c1) (c2 := c2) (X := (qag xs xj)) rfl rfl rfl rfl rfl hc8 HX0.out HXL.out HPD.out ((HB.out.cell (World.block_lt_of_cell? w _ HK0.out)).trans HK0.out) ((HB.out.cell (World.block_lt_of_cell? w _ HK1.out)).trans HK1.out) ((HB.out.cell (World.block_lt_of_cell? w _ HK2.out)).trans HK2.out) ((HB.out.cell (World.block_lt_of_cell? w _ HK3.out)).trans HK3.out) ((HB.out.cell (World.block_lt_of_cell? w _ HK4.out)).trans HK4.out) ((HB.out.cell (World.block_lt_of_cell? w _ HK5.out)).trans HK5.out) ((HB.out.cell (World.block_lt_of_cell? w _ HK6.out)).trans HK6.out) ((HB.out.cell (World.block_lt_of_cell? w _ HK7.out)).trans HK7.out) ((HB.out.cell (World.block_lt_of_cell? w _ HK8.out)).trans HK8.out) HN1.out.1 (HI.out.1.trans HN1.out.1) HG.out (ih (qag xs xj) n1 c1 n2 c2 A8 c8 wr.drew HMX.out HS1.out HN1.out.1 HN1.out.2.1 HN1.out.2.2 (Kd.qdp HC8.out (qa8 HB.out)) HL8.out) ?_
   intro w3 hb3
   simp only [qfe, qb0, if_true, Act.put, List.setIfInBounds_toArray, List.set_cons_zero, List.set_cons_succ]
   have HT3 := qa0.mk (qde (cells := bl c2) (qae (qa5 HT.out) hb3) (Nat.ne_of_lt HNE.out.1))
   have HR3 := qa0.mk (qde (cells := bl c2) (qae (qa5 HR.out) hb3) (Nat.ne_of_gt HNE.out.2))
   have HG3 := qa0.mk (qcx (cells := bl c2) (qae (qa5 HG.out) hb3))
   have HB3 : qa0 (Below w.heap.size w (w3.setRow gc (bl c2))) := ⟨below_setRow ((qa8 HB.out).trans (hb3.mono HB.out.size)) (Nat.le_of_lt HNE.out.1) _⟩
   generalize hw5 : w3.setRow gc (bl c2) = w5 at HT3 HR3 HG3 HB3 ⊢
   clear HT HG HR HB hb3 hw5 hc8 hq
   have hw1 : wrap64 (xj + 1) = xj + 1 := qbt (by have := HX0.out; omega) (by have := HXL.out; have := HC.out.2.1; omega)
   have HW1 := qa0.mk hw1
   clear hw1
   go_wp2
   go_roundw
   case rel => exact ⟨j + 1, wrap64 (xj + 1), n2, c2, rfl, rfl, (by first | rfl | (rw [HW1.out])), ⟨by rw [HW1.out, ← HXJ.out]; rfl⟩, ⟨HLT.out⟩, HS2, ⟨HI.out.1.trans HN1.out.1, Int.le_trans HN1.out.2.1 HI.out.2.1, HI.out.2.2 HN1.out.2.2⟩, HT3, HG3, HR3, HB3⟩
   case measure =>
    have h2 := HXJ.out
    have h3 : xj + 1 = ((j + 1 : Nat) : Int) := by rw [← h2]; rfl
    first | rw [HW1.out, h3, ← h2] | rw [h3, ← h2] | rw [← h2]
    have := HLT.out
    clear h2 h3
    simp only [intOf, List.getElem?_toArray, List.getElem?_cons_succ, List.getElem?_cons_zero, Int.toNat_natCast, Array.getD_eq_getD_getElem?, Option.getD_some]
    omega
  ·have hq : decide (xj < (xs.length : Int)) = false := decide_eq_false (by have := HXJ.out; omega)
   have hd := HS.out
   rw [List.drop_eq_nil_of_le (by omega)] at hd
   obtain ⟨rfl, rfl⟩ := hd
   have hg9 := HG9.out
   have hcg : wr.cell? ⟨gc, g, none⟩ = some (.bool (c'.getD g false)) := (qa2 HG.out g).trans (bl_at HN1.out.1 (by omega))
   have hfg := qa1 HG.out g
   have p0 : (0 ≤ (g : Int)) = True := eq_true (by omega)
   have q0 : ((g : Int) < 10) = True := eq_true (by omega)
   have tn : ((g : Int)).toNat = g := Int.toNat_natCast g
   have hc7 : wr.cell? ⟨w.heap.size, 7, none⟩ = some (.int .i64 (g : Int)) := (qa2 HT.out 7).trans rfl
   have hc0 : wr.cell? ⟨w.heap.size, 0, none⟩ = some (.int .i64 4) := (qa2 HT.out 0).trans rfl
   clear hlt
   go_wp2
   clear hc8 hq hc0 hcg hfg p0 q0 tn hc7 hg9
   have HLE : qa0 ((c'.set g true).length = 10) := ⟨by rw [List.length_set]; exact HN1.out.1⟩
   have HG6 := qa0.mk (qaa HG.out g _ (bl_set c' g))
   have HR6 := qa0.mk (qaj (p := ⟨gc, g, none⟩) HR.out (Nat.ne_of_gt HNE.out.2) (.bool true))
   have HB6 := qa0.mk (HB.out.setCell (p := ⟨gc, g, none⟩) (Nat.le_of_lt HNE.out.1) (.bool true))
   refine qem (c1 := (c'.set g true)) rfl rfl rfl rfl rfl HLE.out rfl HG6.out HR6.out ?_
   simp only [qe5, qb0, if_true, Act.put, List.setIfInBounds_toArray, List.set_cons_zero, List.set_cons_succ]
   have HR3 := qa0.mk (qcx (cells := bl (c'.set g true)) (qa5 HR6.out))
   have HB3 := qa0.mk (below_setRow (qa8 HB6.out) (Nat.le_of_lt (Nat.lt_trans HNE.out.1 HNE.out.2)) (bl (c'.set g true)))
   generalize hw5 : World.setRow _ gr (bl (c'.set g true)) = w5 at HR3 HB3 ⊢
   clear HT HG HR HB HG6 HR6 HB6 hw5
   go_wp2
   refine bodyPost_ret (qb3 (rs := [.tmp 6, .cell 7 38, .tmp 8]) rfl (by simp) (.tmp (.cell gr _ _ (0, 0) _ rfl HR3.out Try.underlying38 rfl (by rw [qdf HLE.out]; kernel_rfl) (.tmp .nil)))) rfl ?_
   exact ⟨rfl, HB3.out⟩
set_option maxHeartbeats 8000000 in
set_option maxRecDepth 100000 in
theorem shaped_5a (m : Nat) (ih : ∀ (t : S27) (n : Int) (c : List Bool) (n' : Int) (c' : List Bool) (A : Option Addr) (cp : Nat) (w : World), SizeOf.sizeOf t < m → Shp t n c n' c' → c.length = 10 → 0 ≤ n → n ≤ 9 → Kd.C k27 w A t.f5.length t.f5 → t.f5.length ≤ cp →
   Calls Try.prog 16 #[.agg #[.int .i64 t.f0, .int .u64 t.f1.f0, .int .u64 t.f1.f1, .int .u64 t.f1.f2, .int .u64 t.f1.f3, .int .i64 t.f2, .int .i64 t.f3, .int .i64 t.f4, .slice A t.f5.length cp], .int .i64 n, .agg (bl c)] w fun e w' => e = .returned (.tuple #[.int .i64 n', .agg (bl c'), .bool true]) ∧ Below w.heap.size w w')
  (xs : List S27) (n : Int) (c : List Bool) (lo : Int) (x : S27) (hx0 : xs = [x]) (hk : x.f0 ≠ 0 ∧ x.f0 ≠ 2 ∧ x.f0 ≠ 3) (hlo : 0 ≤ lo ∧ lo ≤ 255) (n' : Int) (c' : List Bool) (A : Option Addr) (cp : Nat) (w : World) (hm : ∀ x ∈ xs, SizeOf.sizeOf x < m) (hs : ShpL xs (n) c n' c') (hc : c.length = 10) (hn0 : 0 ≤ n) (hn9 : n ≤ 9) (hC : Kd.C k27 w A xs.length xs) (hcp : xs.length ≤ cp) :
  Calls Try.prog 16 #[.agg #[.int .i64 5, .int .u64 0, .int .u64 0, .int .u64 0, .int .u64 0, .int .i64 lo, .int .i64 (-1), .int .i64 0, .slice A xs.length cp], .int .i64 n, .agg (bl c)] w fun e w' => e = .returned (.tuple #[.int .i64 n', .agg (bl c'), .bool true]) ∧ Below w.heap.size w w' := by
 have hu27 := Try.underlying27
 obtain ⟨b0, b1, b2, b3, b4, b5, b6, b7, b8, b9, rfl⟩ := qee hc
 obtain ⟨cc, hcc⟩ : ∃ cc, [b0, b1, b2, b3, b4, b5, b6, b7, b8, b9] = cc := ⟨_, rfl⟩
 have hbl : bl cc = #[.bool b0, .bool b1, .bool b2, .bool b3, .bool b4, .bool b5, .bool b6, .bool b7, .bool b8, .bool b9] := by rw [← hcc]; rfl
 have hlen : cc.length = 10 := by rw [← hcc]; rfl
 rw [hcc] at hs ⊢
 rw [hbl]
 have HS := qa0.mk hs
 have HC := qa0.mk hC
 have HM := qa0.mk hm
 have HCP := qa0.mk hcp
 have HLEN := qa0.mk hlen
 have HBL := qa0.mk hbl
 have HCC := qa0.mk hcc
 have hl1 : ((xs.length : Int) == 1) = true := by rw [hx0]; rfl
 have hl2 : decide (0 < (xs.length : Int)) = true := decide_eq_true (by rw [hx0]; show (0 : Int) < 1; decide)
 have hl3 : (0 < (xs.length : Int)) = True := eq_true (by rw [hx0]; show (0 : Int) < 1; decide)
 have hl4 : 0 < xs.length := by rw [hx0]; show 0 < 1; decide
 obtain ⟨ad0, A8, c8, hA, k0, -⟩ := qdo hC 0 (by decide) (by rw [hx0]; show (0 : Int) < 1; decide)
 subst hA
 have hxe : qag xs 0 = x := by rw [hx0]; rfl
 rw [hxe, show (0 : Int).toNat * 9 = 0 from rfl] at k0
 rw [add00_] at k0
 have HX0E := qa0.mk hx0
 clear hx0 hxe
 have k0a : ∀ o1 o2 o3, (((w.alloc o1).alloc o2).alloc o3).cell? ad0 = _ := fun o1 o2 o3 => ((qa6 (qa6 (qa6 (Below.refl w.heap.size w) o1) o2) o3).cell (World.block_lt_of_cell? w _ k0)).trans k0
 clear k0
 have hb0 : (x.f0 != 0) = true := bne_iff_ne.mpr hk.1
 have hb2 : (x.f0 != 2) = true := bne_iff_ne.mpr hk.2.1
 have hb3 : (x.f0 != 3) = true := bne_iff_ne.mpr hk.2.2
 have hd0 : decide (0 ≤ lo) = true := decide_eq_true hlo.1
 have hd1 : decide (lo ≤ 255) = true := decide_eq_true hlo.2
 clear hk hlo
 have HN := qa0.mk (And.intro hn0 hn9)
 clear hs hC hm hcp hlen hbl hcc hc
 go_enter Try.func16, Try.ntmps16
 go_wp2
 clear k0a
 generalize hW : World.alloc (World.alloc (World.alloc w _) _) _ = W
 have HT : qa0 (W.heap[w.heap.size]? = some (.cells #[.int .i64 5, .int .u64 0, .int .u64 0, .int .u64 0, .int .u64 0, .int .i64 lo, .int .i64 (-1), .int .i64 0, .slice (some ad0) xs.length cp] 27 (0, 0))) := ⟨by rw [← hW]; exact qa3 (qa3 (qat w _) _) _⟩
 have HG : qa0 (W.heap[w.heap.size + 1]? = some (.cells (bl cc) 38 (0, 0))) := ⟨by rw [← hW, HBL.out]; refine qa3 ?_ _; have hq := qat (w.alloc (.cells #[.int .i64 5, .int .u64 0, .int .u64 0, .int .u64 0, .int .u64 0, .int .i64 lo, .int .i64 (-1), .int .i64 0, .slice (some ad0) xs.length cp] 27 (0, 0))) (.cells #[.bool b0, .bool b1, .bool b2, .bool b3, .bool b4, .bool b5, .bool b6, .bool b7, .bool b8, .bool b9] 38 (0, 0)); rw [World.size_alloc] at hq; exact hq⟩
 have HR : qa0 (W.heap[w.heap.size + 1 + 1]? = some (.cells (bl (List.replicate 10 false)) 38 (0, 0))) := ⟨by rw [← hW]; have hq := qat ((w.alloc (.cells #[.int .i64 5, .int .u64 0, .int .u64 0, .int .u64 0, .int .u64 0, .int .i64 lo, .int .i64 (-1), .int .i64 0, .slice (some ad0) xs.length cp] 27 (0, 0))).alloc (.cells #[.bool b0, .bool b1, .bool b2, .bool b3, .bool b4, .bool b5, .bool b6, .bool b7, .bool b8, .bool b9] 38 (0, 0))) (.cells (bl (List.replicate 10 false)) 38 (0, 0)); rw [World.size_alloc, World.size_alloc] at hq; exact hq⟩
 have HB : qa0 (Below w.heap.size w W) := ⟨by rw [← hW]; exact qa6 (qa6 (qa6 (Below.refl _ _) _) _) _⟩
 clear hW HBL HCC
 obtain ⟨gr, hgr⟩ : ∃ k, w.heap.size + 1 + 1 = k := ⟨_, rfl⟩
 rw [hgr] at HR ⊢
 obtain ⟨gc, hgc⟩ : ∃ k, w.heap.size + 1 = k := ⟨_, rfl⟩
 rw [hgc] at HG hgr ⊢
 have HNE : qa0 (w.heap.size < gc ∧ gc < gr) := ⟨by omega⟩
 clear hgr hgc
 go_loopw [1, 9, 10] (fun v1 v9 v10 w' => ∃ (j : Nat) (xj n1 : Int) (c1 : List Bool), v1 = .int .i64 n1 ∧ v9 = .bool true ∧ v10 = .int .i64 xj ∧ qa0 ((j : Int) = xj) ∧ qa0 (j ≤ xs.length) ∧ qa0 (ShpL (xs.drop j) n1 c1 n' c') ∧ qa0 (c1.length = 10 ∧ 0 ≤ n1 ∧ n1 ≤ 9) ∧ qa0 (w'.heap[w.heap.size]? = some (.cells #[.int .i64 5, .int .u64 0, .int .u64 0, .int .u64 0, .int .u64 0, .int .i64 lo, .int .i64 (-1), .int .i64 0, .slice (some ad0) xs.length cp] 27 (0, 0))) ∧ qa0 (w'.heap[gc]? = some (.cells (bl c1) 38 (0, 0))) ∧ qa0 (w'.heap[gr]? = some (.cells (bl (List.replicate 10 false)) 38 (0, 0))) ∧ qa0 (Below w.heap.size w w'))
  (fun _ _ v10 _ => xs.length - (intOf v10).toNat)
 case atStart => exact ⟨0, 0, n, cc, rfl, rfl, rfl, ⟨rfl⟩, ⟨Nat.zero_le _⟩, HS, ⟨HLEN.out, by have := HN.out; omega, by have := HN.out; first | omega | (have := HGN.out; have := HG9.out; omega)⟩, HT, HG, HR, HB⟩
 case round =>
  clear HS HT HG HR HB HLEN
  obtain ⟨j, xj, n1, c1, rfl, rfl, rfl, HXJ, HJ, HS, HN1, HT, HG, HR, HB⟩ := hrel
  have hc8 : wr.cell? ⟨w.heap.size, 8, none⟩ = some (.slice (some ad0) xs.length cp) := (qa2 HT.out 8).trans rfl
  by_cases hlt : j < xs.length
  ·have hxlt : xj < (xs.length : Int) := by have := HXJ.out; omega
   have hx0 : 0 ≤ xj := by have := HXJ.out; omega
   have hq : decide (xj < (xs.length : Int)) = true := decide_eq_true hxlt
   have hsp := HS.out
   have hxe : (qag xs xj) = xs[j] := by rw [← HXJ.out]; unfold qag; rw [Int.toNat_natCast, List.getD_eq_getElem?_getD, List.getElem?_eq_getElem hlt]; rfl
   rw [List.drop_eq_getElem_cons hlt, ← hxe] at hsp
   obtain ⟨n2, c2, hs1, hs2⟩ := hsp
   have hmx : SizeOf.sizeOf (qag xs xj) < m := by rw [hxe]; exact HM.out _ (List.getElem_mem hlt)
   have HI := qa0.mk (qfz m _ _ _ _ _ hmx hs1)
   have HS1 := qa0.mk hs1
   have HS2 := qa0.mk hs2
   have HMX := qa0.mk hmx
   have HLT := qa0.mk hlt
   clear HS hs1 hs2 hmx hxe hlt
   obtain ⟨ad, A8, c8, hA, k0, k1, k2, k3, k4, k5, k6, k7, k8, hl8, hC8⟩ := qdo HC.out xj hx0 hxlt
   obtain ⟨pd, hpd⟩ : ∃ p, ad.add (xj.toNat * 9) = p := ⟨_, rfl⟩
   rw [hpd] at k0 k1 k2 k3 k4 k5 k6 k7 k8
   have HPD := qa0.mk hpd
   have HK0 := qa0.mk k0
   have HK1 := qa0.mk k1
   have HK2 := qa0.mk k2
   have HK3 := qa0.mk k3
   have HK4 := qa0.mk k4
   have HK5 := qa0.mk k5
   have HK6 := qa0.mk k6
   have HK7 := qa0.mk k7
   have HK8 := qa0.mk k8
   have HC8 := qa0.mk hC8
   have HL8 := qa0.mk hl8
   have HX0 := qa0.mk hx0
   have HXL := qa0.mk hxlt
   have HA := qa0.mk hA
   clear k0 k1 k2 k3 k4 k5 k6 k7 k8 hpd hC8 hl8 hx0 hxlt hA
   have hA := HA.out
   cases hA
   go_wp2
   refine qh9 (gb := w.heap.size) (gc := gc) (xj := xj) (n1 := n1) (n2 := n2) (c1 := c1) (c2 := c2) (X := (qag xs xj)) rfl rfl rfl rfl rfl hc8 HX0.out HXL.out HPD.out ((HB.out.cell (World.block_lt_of_cell? w _ HK0.out)).trans HK0.out) ((HB.out.cell (World.block_lt_of_cell? w _ HK1.out)).trans HK1.out) ((HB.out.cell (World.block_lt_of_cell? w _ HK2.out)).trans HK2.out) ((HB.out.cell (World.block_lt_of_cell? w _ HK3.out)).trans HK3.out) ((HB.out.cell (World.block_lt_of_cell? w _ HK4.out)).trans HK4.out) ((HB.out.cell (World.block_lt_of_cell? w _ HK5.out)).trans HK5.out) ((HB.out.cell (World.block_lt_of_cell? w _ HK6.out)).trans HK6.out) ((HB.out.cell (World.block_lt_of_cell? w _ HK7.out)).trans HK7.out) ((HB.out.cell (World.block_lt_of_cell? w _ HK8.out)).trans HK8.out) HN1.out.1 (HI.out.1.trans HN1.out.1) HG.out (ih (qag xs xj) n1 c1 n2 c2 A8 c8 wr.drew HMX.out HS1.out HN1.out.1 HN1.out.2.1 HN1.out.2.2 (Kd.qdp HC8.out (qa8 HB.out)) HL8.out) ?_
   intro w3 hb3
   simp only [qfe, qb0, if_true, Act.put, List.setIfInBounds_toArray, List.set_cons_zero, List.set_cons_succ]
   have HT3 := qa0.mk (qde (cells := bl c2) (qae (qa5 HT.out) hb3) (Nat.ne_of_lt HNE.out.1))
   have HR3 := qa0.mk (qde (cells := bl c2) (qae (qa5 HR.out) hb3) (Nat.ne_of_gt HNE.out.2))
   have HG3 := qa0.mk (qcx (cells := bl c2) (qae (qa5 HG.out) hb3))
   have HB3 : qa0 (Below w.heap.size w (w3.setRow gc (bl c2))) := ⟨below_setRow ((qa8 HB.out).trans (hb3.mono HB.out.size)) (Nat.le_of_lt HNE.out.1) _⟩
   generalize hw5 : w3.setRow gc (bl c2) = w5 at HT3 HR3 HG3 HB3 ⊢
   clear HT HG HR HB hb3 hw5 hc8 hq
   have hw1 : wrap64 (xj + 1) = xj + 1 := qbt (by have := HX0.out; omega) (by have := HXL.out; have := HC.out.2.1; omega)
   have HW1 := qa0.mk hw1
   clear hw1
   go_wp2
   go_roundw
   case rel => exact ⟨j + 1, wrap64 (xj + 1), n2, c2, rfl, rfl, (by first | rfl | (rw [HW1.out])), ⟨by rw [HW1.out, ← HXJ.out]; rfl⟩, ⟨HLT.out⟩, HS2, ⟨HI.out.1.trans HN1.out.1, Int.le_trans HN1.out.2.1 HI.out.2.1, HI.out.2.2 HN1.out.2.2⟩, HT3, HG3, HR3, HB3⟩
   case measure =>
    have h2 := HXJ.out
    have h3 : xj + 1 = ((j + 1 : Nat) : Int) := by rw [← h2]; rfl
    first | rw [HW1.out, h3, ← h2] | rw [h3, ← h2] | rw [← h2]
    have := HLT.out
    clear h2 h3
    simp only [intOf, List.getElem?_toArray, List.getElem?_cons_succ, List.getElem?_cons_zero, Int.toNat_natCast, Array.getD_eq_getD_getElem?, Option.getD_some]
    omega
  ·have hq : decide (xj < (xs.length : Int)) = false := decide_eq_false (by have := HXJ.out; omega)
   have hd := HS.out
   rw [List.drop_eq_nil_of_le (by omega)] at hd
   obtain ⟨rfl, rfl⟩ := hd
   have hc0 : wr.cell? ⟨w.heap.size, 0, none⟩ = some (.int .i64 5) := (qa2 HT.out 0).trans rfl
   clear hlt
   go_wp2
   clear hc8 hq hc0
   have HLE := qa0.mk HN1.out.1
   have HG6 := HG
   have HR6 := HR
   have HB6 := HB
   refine qem (c1 := c') rfl rfl rfl rfl rfl HLE.out rfl HG6.out HR6.out ?_
   simp only [qe5, qb0, if_true, Act.put, List.setIfInBounds_toArray, List.set_cons_zero, List.set_cons_succ]
   have HR3 := qa0.mk (qcx (cells := bl c') (qa5 HR6.out))
   have HB3 := qa0.mk (below_setRow (qa8 HB6.out) (Nat.le_of_lt (Nat.lt_trans HNE.out.1 HNE.out.2)) (bl c'))
   generalize hw5 : World.setRow _ gr (bl c') = w5 at HR3 HB3 ⊢
   clear HT HG HR HB HG6 HR6 HB6 hw5
   go_wp2
   refine bodyPost_ret (qb3 (rs := [.tmp 6, .cell 7 38, .tmp 8]) rfl (by simp) (.tmp (.cell gr _ _ (0, 0) _ rfl HR3.out Try.underlying38 rfl (by rw [qdf HLE.out]; kernel_rfl) (.tmp .nil)))) rfl ?_
   exact ⟨rfl, HB3.out⟩
set_option maxHeartbeats 8000000 in
set_option maxRecDepth 100000 in
theorem shaped_5b (m : Nat) (ih : ∀ (t : S27) (n : Int) (c : List Bool) (n' : Int) (c' : List Bool) (A : Option Addr) (cp : Nat) (w : World), SizeOf.sizeOf t < m → Shp t n c n' c' → c.length = 10 → 0 ≤ n → n ≤ 9 → Kd.C k27 w A t.f5.length t.f5 → t.f5.length ≤ cp →
   Calls Try.prog 16 #[.agg #[.int .i64 t.f0, .int .u64 t.f1.f0, .int .u64 t.f1.f1, .int .u64 t.f1.f2, .int .u64 t.f1.f3, .int .i64 t.f2, .int .i64 t.f3, .int .i64 t.f4, .slice A t.f5.length cp], .int .i64 n, .agg (bl c)] w fun e w' => e = .returned (.tuple #[.int .i64 n', .agg (bl c'), .bool true]) ∧ Below w.heap.size w w')
  (xs : List S27) (n : Int) (c : List Bool) (lo hi : Int) (x : S27) (hx0 : xs = [x]) (hk : x.f0 ≠ 0 ∧ x.f0 ≠ 2 ∧ x.f0 ≠ 3) (hlo : 0 ≤ lo ∧ lo ≤ 255) (hhi : lo ≤ hi ∧ hi ≤ 255) (n' : Int) (c' : List Bool) (A : Option Addr) (cp : Nat) (w : World) (hm : ∀ x ∈ xs, SizeOf.sizeOf x < m) (hs : ShpL xs (n) c n' c') (hc : c.length = 10) (hn0 : 0 ≤ n) (hn9 : n ≤ 9) (hC : Kd.C k27 w A xs.length xs) (hcp : xs.length ≤ cp) :
  Calls Try.prog 16 #[.agg #[.int .i64 5, .int .u64 0, .int .u64 0, .int .u64 0, .int .u64 0, .int .i64 lo, .int .i64 hi, .int .i64 0, .slice A xs.length cp], .int .i64 n, .agg (bl c)] w fun e w' => e = .returned (.tuple #[.int .i64 n', .agg (bl c'), .bool true]) ∧ Below w.heap.size w w' := by
 have hu27 := Try.underlying27
 obtain ⟨b0, b1, b2, b3, b4, b5, b6, b7, b8, b9, rfl⟩ := qee hc
 obtain ⟨cc, hcc⟩ : ∃ cc, [b0, b1, b2, b3, b4, b5, b6, b7, b8, b9] = cc := ⟨_, rfl⟩
 have hbl : bl cc = #[.bool b0, .bool b1, .bool b2, .bool b3, .bool b4, .bool b5, .bool b6, .bool b7, .bool b8, .bool b9] := by rw [← hcc]; rfl
 have hlen : cc.length = 10 := by rw [← hcc]; rfl
 rw [hcc] at hs ⊢
 rw [hbl]
 have HS := qa0.mk hs
 have HC := qa0.mk hC
 have HM := qa0.mk hm
 have HCP := qa0.mk hcp
 have HLEN := qa0.mk hlen
 have HBL := qa0.mk hbl
 have HCC := qa0.mk hcc
 have hl1 : ((xs.length : Int) == 1) = true := by rw [hx0]; rfl
 have hl2 : decide (0 < (xs.length : Int)) = true := decide_eq_true (by rw [hx0]; show (0 : Int) < 1; decide)
 have hl3 : (0 < (xs.length : Int)) = True := eq_true (by rw [hx0]; show (0 : Int) < 1; decide)
 have hl4 : 0 < xs.length := by rw [hx0]; show 0 < 1; decide
 obtain ⟨ad0, A8, c8, hA, k0, -⟩ := qdo hC 0 (by decide) (by rw [hx0]; show (0 : Int) < 1; decide)
 subst hA
 have hxe : qag xs 0 = x := by rw [hx0]; rfl
 rw [hxe, show (0 : Int).toNat * 9 = 0 from rfl] at k0
 rw [add00_] at k0
 have HX0E := qa0.mk hx0
 clear hx0 hxe
 have k0a : ∀ o1 o2 o3, (((w.alloc o1).alloc o2).alloc o3).cell? ad0 = _ := fun o1 o2 o3 => ((qa6 (qa6 (qa6 (Below.refl w.heap.size w) o1) o2) o3).cell (World.block_lt_of_cell? w _ k0)).trans k0
 clear k0
 have hb0 : (x.f0 != 0) = true := bne_iff_ne.mpr hk.1
 have hb2 : (x.f0 != 2) = true := bne_iff_ne.mpr hk.2.1
 have hb3 : (x.f0 != 3) = true := bne_iff_ne.mpr hk.2.2
 have hd0 : decide (0 ≤ lo) = true := decide_eq_true hlo.1
 have hd1 : decide (lo ≤ 255) = true := decide_eq_true hlo.2
 have he0 : (hi == -1) = false := beq_eq_false_iff_ne.mpr (by omega)
 have he1 : decide (lo ≤ hi) = true := decide_eq_true hhi.1
 have he2 : decide (hi ≤ 255) = true := decide_eq_true hhi.2
 clear hk hlo hhi
 have HN := qa0.mk (And.intro hn0 hn9)
 clear hs hC hm hcp hlen hbl hcc hc
 go_enter Try.func16, Try.ntmps16
 go_wp2
 clear k0a
 generalize hW : World.alloc (World.alloc (World.alloc w _) _) _ = W
 have HT : qa0 (W.heap[w.heap.size]? = some (.cells #[.int .i64 5, .int .u64 0, .int .u64 0, .int .u64 0, .int .u64 0, .int .i64 lo, .int .i64 hi, .int .i64 0, .slice (some ad0) xs.length cp] 27 (0, 0))) := ⟨by rw [← hW]; exact qa3 (qa3 (qat w _) _) _⟩
 have HG : qa0 (W.heap[w.heap.size + 1]? = some (.cells (bl cc) 38 (0, 0))) := ⟨by rw [← hW, HBL.out]; refine qa3 ?_ _; have hq := qat (w.alloc (.cells #[.int .i64 5, .int .u64 0, .int .u64 0, .int .u64 0, .int .u64 0, .int .i64 lo, .int .i64 hi, .int .i64 0, .slice (some ad0) xs.length cp] 27 (0, 0))) (.cells #[.bool b0, .bool b1, .bool b2, .bool b3, .bool b4, .bool b5, .bool b6, .bool b7, .bool b8, .bool b9] 38 (0, 0)); rw [World.size_alloc] at hq; exact hq⟩
 have HR : qa0 (W.heap[w.heap.size + 1 + 1]? = some (.cells (bl (List.replicate 10 false)) 38 (0, 0))) := ⟨by rw [← hW]; have hq := qat ((w.alloc (.cells #[.int .i64 5, .int .u64 0, .int .u64 0, .int .u64 0, .int .u64 0, .int .i64 lo, .int .i64 hi, .int .i64 0, .slice (some ad0) xs.length cp] 27 (0, 0))).alloc (.cells #[.bool b0, .bool b1, .bool b2, .bool b3, .bool b4, .bool b5, .bool b6, .bool b7, .bool b8, .bool b9] 38 (0, 0))) (.cells (bl (List.replicate 10 false)) 38 (0, 0)); rw [World.size_alloc, World.size_alloc] at hq; exact hq⟩
 have HB : qa0 (Below w.heap.size w W) := ⟨by rw [← hW]; exact qa6 (qa6 (qa6 (Below.refl _ _) _) _) _⟩
 clear hW HBL HCC
 obtain ⟨gr, hgr⟩ : ∃ k, w.heap.size + 1 + 1 = k := ⟨_, rfl⟩
 rw [hgr] at HR ⊢
 obtain ⟨gc, hgc⟩ : ∃ k, w.heap.size + 1 = k := ⟨_, rfl⟩
 rw [hgc] at HG hgr ⊢
 have HNE : qa0 (w.heap.size < gc ∧ gc < gr) := ⟨by omega⟩
 clear hgr hgc
 go_loopw [1, 9, 10] (fun v1 v9 v10 w' => ∃ (j : Nat) (xj n1 : Int) (c1 : List Bool), v1 = .int .i64 n1 ∧ v9 = .bool true ∧ v10 = .int .i64 xj ∧ qa0 ((j : Int) = xj) ∧ qa0 (j ≤ xs.length) ∧ qa0 (ShpL (xs.drop j) n1 c1 n' c') ∧ qa0 (c1.length = 10 ∧ 0 ≤ n1 ∧ n1 ≤ 9) ∧ qa0 (w'.heap[w.heap.size]? = some (.cells #[.int .i64 5, .int .u64 0, .int .u64 0, .int .u64 0, .int .u64 0, .int .i64 lo, .int .i64 hi, .int .i64 0, .slice (some ad0) xs.length cp] 27 (0, 0))) ∧ qa0 (w'.heap[gc]? = some (.cells (bl c1) 38 (0, 0))) ∧ qa0 (w'.heap[gr]? = some (.cells (bl (List.replicate 10 false)) 38 (0, 0))) ∧ qa0 (Below w.heap.size w w'))
  (fun _ _ v10 _ => xs.length - (intOf v10).toNat)
 case atStart => exact ⟨0, 0, n, cc, rfl, rfl, rfl, ⟨rfl⟩, ⟨Nat.zero_le _⟩, HS, ⟨HLEN.out, by have := HN.out; omega, by have := HN.out; first | omega | (have := HGN.out; have := HG9.out; omega)⟩, HT, HG, HR, HB⟩
 case round =>
  clear HS HT HG HR HB HLEN
  obtain ⟨j, xj, n1, c1, rfl, rfl, rfl, HXJ, HJ, HS, HN1, HT, HG, HR, HB⟩ := hrel
  have hc8 : wr.cell? ⟨w.heap.size, 8, none⟩ = some (.slice (some ad0) xs.length cp) := (qa2 HT.out 8).trans rfl
  by_cases hlt : j < xs.length
  ·have hxlt : xj < (xs.length : Int) := by have := HXJ.out; omega
   have hx0 : 0 ≤ xj := by have := HXJ.out; omega
   have hq : decide (xj < (xs.length : Int)) = true := decide_eq_true hxlt
   have hsp := HS.out
   have hxe : (qag xs xj) = xs[j] := by rw [← HXJ.out]; unfold qag; rw [Int.toNat_natCast, List.getD_eq_getElem?_getD, List.getElem?_eq_getElem hlt]; rfl
   rw [List.drop_eq_getElem_cons hlt, ← hxe] at hsp
   obtain ⟨n2, c2, hs1, hs2⟩ := hsp
   have hmx : SizeOf.sizeOf (qag xs xj) < m := by rw [hxe]; exact HM.out _ (List.getElem_mem hlt)
   have HI := qa0.mk (qfz m _ _ _ _ _ hmx hs1)
   have HS1 := qa0.mk hs1
   have HS2 := qa0.mk hs2
   have HMX := qa0.mk hmx
   have HLT := qa0.mk hlt
   clear HS hs1 hs2 hmx hxe hlt
   obtain ⟨ad, A8, c8, hA, k0, k1, k2, k3, k4, k5, k6, k7, k8, hl8, hC8⟩ := qdo HC.out xj hx0 hxlt
   obtain ⟨pd, hpd⟩ : ∃ p, ad.add (xj.toNat * 9) = p := ⟨_, rfl⟩
   rw [hpd] at k0 k1 k2 k3 k4 k5 k6 k7 k8
   have HPD := qa0.mk hpd
   have HK0 := qa0.mk k0
   have HK1 := qa0.mk k1
   have HK2 := qa0.mk k2
   have HK3 := qa0.mk k3
   have HK4 := qa0.mk k4
   have HK5 := qa0.mk k5
   have HK6 := qa0.mk k6
   have HK7 := qa0.mk k7
   have HK8 := qa0.mk k8
   have HC8 := qa0.mk hC8
   have HL8 := qa0.mk hl8
   have HX0 := qa0.mk hx0
   have HXL := qa0.mk hxlt
   have HA := qa0.mk hA
   clear k0 k1 k2 k3 k4 k5 k6 k7 k8 hpd hC8 hl8 hx0 hxlt hA
   have hA := HA.out
   cases hA
   go_wp2
   refine qh9 (gb := w.heap.size) (gc := gc) (xj := xj) (n1 := n1) (n2 := n2) (c1 := c1) (c2 := c2) (X := (qag xs xj)) rfl rfl rfl rfl rfl hc8 HX0.out HXL.out HPD.out ((HB.out.cell (World.block_lt_of_cell? w _ HK0.out)).trans HK0.out) ((HB.out.cell (World.block_lt_of_cell? w _ HK1.out)).trans HK1.out) ((HB.out.cell (World.block_lt_of_cell? w _ HK2.out)).trans HK2.out) ((HB.out.cell (World.block_lt_of_cell? w _ HK3.out)).trans HK3.out) ((HB.out.cell (World.block_lt_of_cell? w _ HK4.out)).trans HK4.out) ((HB.out.cell (World.block_lt_of_cell? w _ HK5.out)).trans HK5.out) ((HB.out.cell (World.block_lt_of_cell? w _ HK6.out)).trans HK6.out) ((HB.out.cell (World.block_lt_of_cell? w _ HK7.out)).trans HK7.out) ((HB.out.cell (World.block_lt_of_cell? w _ HK8.out)).trans HK8.out) HN1.out.1 (HI.out.1.trans HN1.out.1) HG.out (ih (qag xs xj) n1 c1 n2 c2 A8 c8 wr.drew HMX.out HS1.out HN1.out.1 HN1.out.2.1 HN1.out.2.2 (Kd.qdp HC8.out (qa8 HB.out)) HL8.out) ?_
   intro w3 hb3
   simp only [qfe, qb0, if_true, Act.put, List.setIfInBounds_toArray, List.set_cons_zero, List.set_cons_succ]
   have HT3 := qa0.mk (qde (cells := bl c2) (qae (qa5 HT.out) hb3) (Nat.ne_of_lt HNE.out.1))
   have HR3 := qa0.mk (qde (cells := bl c2) (qae (qa5 HR.out) hb3) (Nat.ne_of_gt HNE.out.2))
   have HG3 := qa0.mk (qcx (cells := bl c2) (qae (qa5 HG.out) hb3))
   have HB3 : qa0 (Below w.heap.size w (w3.setRow gc (bl c2))) := ⟨below_setRow ((qa8 HB.out).trans (hb3.mono HB.out.size)) (Nat.le_of_lt HNE.out.1) _⟩
   generalize hw5 : w3.setRow gc (bl c2) = w5 at HT3 HR3 HG3 HB3 ⊢
   clear HT HG HR HB hb3 hw5 hc8 hq
   have hw1 : wrap64 (xj + 1) = xj + 1 := qbt (by have := HX0.out; omega) (by have := HXL.out; have := HC.out.2.1; omega)
   have HW1 := qa0.mk hw1
   clear hw1
   go_wp2
   go_roundw
   case rel => exact ⟨j + 1, wrap64 (xj + 1), n2, c2, rfl, rfl, (by first | rfl | (rw [HW1.out])), ⟨by rw [HW1.out, ← HXJ.out]; rfl⟩, ⟨HLT.out⟩, HS2, ⟨HI.out.1.trans HN1.out.1, Int.le_trans HN1.out.2.1 HI.out.2.1, HI.out.2.2 HN1.out.2.2⟩, HT3, HG3, HR3, HB3⟩
   case measure =>
    have h2 := HXJ.out
    have h3 : xj + 1 = ((j + 1 : Nat) : Int) := by rw [← h2]; rfl
    first | rw [HW1.out, h3, ← h2] | rw [h3, ← h2] | rw [← h2]
    have := HLT.out
    clear h2 h3
    simp only [intOf, List.getElem?_toArray, List.getElem?_cons_succ, List.getElem?_cons_zero, Int.toNat_natCast, Array.getD_eq_getD_getElem?, Option.getD_some]
    omega
  ·have hq : decide (xj < (xs.length : Int)) = false := decide_eq_false (by have := HXJ.out; omega)
   have hd := HS.out
   rw [List.drop_eq_nil_of_le (by omega)] at hd
   obtain ⟨rfl, rfl⟩ := hd
   have hc0 : wr.cell? ⟨w.heap.size, 0, none⟩ = some (.int .i64 5) := (qa2 HT.out 0).trans rfl
   clear hlt
   go_wp2
   clear hc8 hq hc0
   have HLE := qa0.mk HN1.out.1
   have HG6 := HG
   have HR6 := HR
   have HB6 := HB
   refine qem (c1 := c') rfl rfl rfl rfl rfl HLE.out rfl HG6.out HR6.out ?_
   simp only [qe5, qb0, if_true, Act.put, List.setIfInBounds_toArray, List.set_cons_zero, List.set_cons_succ]
   have HR3 := qa0.mk (qcx (cells := bl c') (qa5 HR6.out))
   have HB3 := qa0.mk (below_setRow (qa8 HB6.out) (Nat.le_of_lt (Nat.lt_trans HNE.out.1 HNE.out.2)) (bl c'))
   generalize hw5 : World.setRow _ gr (bl c') = w5 at HR3 HB3 ⊢
   clear HT HG HR HB HG6 HR6 HB6 hw5
   go_wp2
   refine bodyPost_ret (qb3 (rs := [.tmp 6, .cell 7 38, .tmp 8]) rfl (by simp) (.tmp (.cell gr _ _ (0, 0) _ rfl HR3.out Try.underlying38 rfl (by rw [qdf HLE.out]; kernel_rfl) (.tmp .nil)))) rfl ?_
   exact ⟨rfl, HB3.out⟩
set_option maxHeartbeats 8000000 in
set_option maxRecDepth 100000 in
theorem shaped_6 (m : Nat) (ih : ∀ (t : S27) (n : Int) (c : List Bool) (n' : Int) (c' : List Bool) (A : Option Addr) (cp : Nat) (w : World), SizeOf.sizeOf t < m → Shp t n c n' c' → c.length = 10 → 0 ≤ n → n ≤ 9 → Kd.C k27 w A t.f5.length t.f5 → t.f5.length ≤ cp →
   Calls Try.prog 16 #[.agg #[.int .i64 t.f0, .int .u64 t.f1.f0, .int .u64 t.f1.f1, .int .u64 t.f1.f2, .int .u64 t.f1.f3, .int .i64 t.f2, .int .i64 t.f3, .int .i64 t.f4, .slice A t.f5.length cp], .int .i64 n, .agg (bl c)] w fun e w' => e = .returned (.tuple #[.int .i64 n', .agg (bl c'), .bool true]) ∧ Below w.heap.size w w')
  (xs : List S27) (n : Int) (c : List Bool) (g : Nat) (hx0 : xs = []) (hg1 : 1 ≤ g) (hg9 : g ≤ 9) (hcl : c.getD g false = true) (n' : Int) (c' : List Bool) (A : Option Addr) (cp : Nat) (w : World) (hm : ∀ x ∈ xs, SizeOf.sizeOf x < m) (hs : ShpL xs (n) c n' c') (hc : c.length = 10) (hn0 : 0 ≤ n) (hn9 : n ≤ 9) (hC : Kd.C k27 w A xs.length xs) (hcp : xs.length ≤ cp) :
  Calls Try.prog 16 #[.agg #[.int .i64 6, .int .u64 0, .int .u64 0, .int .u64 0, .int .u64 0, .int .i64 0, .int .i64 0, .int .i64 (g : Int), .slice A xs.length cp], .int .i64 n, .agg (bl c)] w fun e w' => e = .returned (.tuple #[.int .i64 n', .agg (bl c'), .bool true]) ∧ Below w.heap.size w w' := by
 have hu27 := Try.underlying27
 obtain ⟨b0, b1, b2, b3, b4, b5, b6, b7, b8, b9, rfl⟩ := qee hc
 obtain ⟨cc, hcc⟩ : ∃ cc, [b0, b1, b2, b3, b4, b5, b6, b7, b8, b9] = cc := ⟨_, rfl⟩
 have hbl : bl cc = #[.bool b0, .bool b1, .bool b2, .bool b3, .bool b4, .bool b5, .bool b6, .bool b7, .bool b8, .bool b9] := by rw [← hcc]; rfl
 have hlen : cc.length = 10 := by rw [← hcc]; rfl
 rw [hcc] at hs ⊢
 rw [hbl]
 have HS := qa0.mk hs
 have HC := qa0.mk hC
 have HM := qa0.mk hm
 have HCP := qa0.mk hcp
 have HLEN := qa0.mk hlen
 have HBL := qa0.mk hbl
 have HCC := qa0.mk hcc
 have hl0 : ((xs.length : Int) == 0) = true := by rw [hx0]; rfl
 have HX0E := qa0.mk hx0
 clear hx0
 rw [hcc] at hcl
 have hd1 : decide (1 ≤ (g : Int)) = true := decide_eq_true (by omega)
 have hd9 : decide ((g : Int) ≤ 9) = true := decide_eq_true (by omega)
 have p0 : (0 ≤ (g : Int)) = True := eq_true (by omega)
 have q0 : ((g : Int) < 10) = True := eq_true (by omega)
 have tn : ((g : Int)).toNat = g := Int.toNat_natCast g
 have hcx : ∀ o1 o3, (((w.alloc o1).alloc (.cells #[.bool b0, .bool b1, .bool b2, .bool b3, .bool b4, .bool b5, .bool b6, .bool b7, .bool b8, .bool b9] 38 (0, 0))).alloc o3).cell? ⟨w.heap.size + 1, g, none⟩ = some (.bool true) := fun o1 o3 => by
  have q := qat (w.alloc o1) (.cells #[.bool b0, .bool b1, .bool b2, .bool b3, .bool b4, .bool b5, .bool b6, .bool b7, .bool b8, .bool b9] 38 (0, 0))
  rw [World.size_alloc] at q
  rw [qa2 (qa3 q o3) g, ← hbl, bl_at hlen (by omega), hcl]
 clear hg1 hg9 hcl
 have HN := qa0.mk (And.intro hn0 hn9)
 clear hs hC hm hcp hlen hbl hcc hc
 go_enter Try.func16, Try.ntmps16
 go_wp2
 clear hcx p0 q0 tn hd1 hd9
 generalize hW : World.alloc (World.alloc (World.alloc w _) _) _ = W
 have HT : qa0 (W.heap[w.heap.size]? = some (.cells #[.int .i64 6, .int .u64 0, .int .u64 0, .int .u64 0, .int .u64 0, .int .i64 0, .int .i64 0, .int .i64 (g : Int), .slice A xs.length cp] 27 (0, 0))) := ⟨by rw [← hW]; exact qa3 (qa3 (qat w _) _) _⟩
 have HG : qa0 (W.heap[w.heap.size + 1]? = some (.cells (bl cc) 38 (0, 0))) := ⟨by rw [← hW, HBL.out]; refine qa3 ?_ _; have hq := qat (w.alloc (.cells #[.int .i64 6, .int .u64 0, .int .u64 0, .int .u64 0, .int .u64 0, .int .i64 0, .int .i64 0, .int .i64 (g : Int), .slice A xs.length cp] 27 (0, 0))) (.cells #[.bool b0, .bool b1, .bool b2, .bool b3, .bool b4, .bool b5, .bool b6, .bool b7, .bool b8, .bool b9] 38 (0, 0)); rw [World.size_alloc] at hq; exact hq⟩
 have HR : qa0 (W.heap[w.heap.size + 1 + 1]? = some (.cells (bl (List.replicate 10 false)) 38 (0, 0))) := ⟨by rw [← hW]; have hq := qat ((w.alloc (.cells #[.int .i64 6, .int .u64 0, .int .u64 0, .int .u64 0, .int .u64 0, .int .i64 0, .int .i64 0, .int .i64 (g : Int), .slice A xs.length cp] 27 (0, 0))).alloc (.cells #[.bool b0, .bool b1, .bool b2, .bool b3, .bool b4, .bool b5, .bool b6, .bool b7, .bool b8, .bool b9] 38 (0, 0))) (.cells (bl (List.replicate 10 false)) 38 (0, 0)); rw [World.size_alloc, World.size_alloc] at hq; exact hq⟩
 have HB : qa0 (Below w.heap.size w W) := ⟨by rw [← hW]; exact qa6 (qa6 (qa6 (Below.refl _ _) _) _) _⟩
 clear hW HBL HCC
 obtain ⟨gr, hgr⟩ : ∃ k, w.heap.size + 1 + 1 = k := ⟨_, rfl⟩
 rw [hgr] at HR ⊢
 obtain ⟨gc, hgc⟩ : ∃ k, w.heap.size + 1 = k := ⟨_, rfl⟩
 rw [hgc] at HG hgr ⊢
 have HNE : qa0 (w.heap.size < gc ∧ gc < gr) := ⟨by omega⟩
 clear hgr hgc
 go_loopw [1, 9, 10] (fun v1 v9 v10 w' => ∃ (j : Nat) (xj n1 : Int) (c1 : List Bool), v1 = .int .i64 n1 ∧ v9 = .bool true ∧ v10 = .int .i64 xj ∧ qa0 ((j : Int) = xj) ∧ qa0 (j ≤ xs.length) ∧ qa0 (ShpL (xs.drop j) n1 c1 n' c') ∧ qa0 (c1.length = 10 ∧ 0 ≤ n1 ∧ n1 ≤ 9) ∧ qa0 (w'.heap[w.heap.size]? = some (.cells #[.int .i64 6, .int .u64 0, .int .u64 0, .int .u64 0, .int .u64 0, .int .i64 0, .int .i64 0, .int .i64 (g : Int), .slice A xs.length cp] 27 (0, 0))) ∧ qa0 (w'.heap[gc]? = some (.cells (bl c1) 38 (0, 0))) ∧ qa0 (w'.heap[gr]? = some (.cells (bl (List.replicate 10 false)) 38 (0, 0))) ∧ qa0 (Below w.heap.size w w'))
  (fun _ _ v10 _ => xs.length - (intOf v10).toNat)
 case atStart => exact ⟨0, 0, n, cc, rfl, rfl, rfl, ⟨rfl⟩, ⟨Nat.zero_le _⟩, HS, ⟨HLEN.out, by have := HN.out; omega, by have := HN.out; first | omega | (have := HGN.out; have := HG9.out; omega)⟩, HT, HG, HR, HB⟩
 case round =>
  clear HS HT HG HR HB HLEN
  obtain ⟨j, xj, n1, c1, rfl, rfl, rfl, HXJ, HJ, HS, HN1, HT, HG, HR, HB⟩ := hrel
  have hc8 : wr.cell? ⟨w.heap.size, 8, none⟩ = some (.slice A xs.length cp) := (qa2 HT.out 8).trans rfl
  by_cases hlt : j < xs.length
  ·exact absurd hlt (by rw [HX0E.out]; exact Nat.not_lt_zero _)
  ·have hq : decide (xj < (xs.length : Int)) = false := decide_eq_false (by have := HXJ.out; omega)
   have hd := HS.out
   rw [List.drop_eq_nil_of_le (by omega)] at hd
   obtain ⟨rfl, rfl⟩ := hd
   have hc0 : wr.cell? ⟨w.heap.size, 0, none⟩ = some (.int .i64 6) := (qa2 HT.out 0).trans rfl
   clear hlt
   go_wp2
   clear hc8 hq hc0
   have HLE := qa0.mk HN1.out.1
   have HG6 := HG
   have HR6 := HR
   have HB6 := HB
   refine qem (c1 := c') rfl rfl rfl rfl rfl HLE.out rfl HG6.out HR6.out ?_
   simp only [qe5, qb0, if_true, Act.put, List.setIfInBounds_toArray, List.set_cons_zero, List.set_cons_succ]
   have HR3 := qa0.mk (qcx (cells := bl c') (qa5 HR6.out))
   have HB3 := qa0.mk (below_setRow (qa8 HB6.out) (Nat.le_of_lt (Nat.lt_trans HNE.out.1 HNE.out.2)) (bl c'))
   generalize hw5 : World.setRow _ gr (bl c') = w5 at HR3 HB3 ⊢
   clear HT HG HR HB HG6 HR6 HB6 hw5
   go_wp2
   refine bodyPost_ret (qb3 (rs := [.tmp 6, .cell 7 38, .tmp 8]) rfl (by simp) (.tmp (.cell gr _ _ (0, 0) _ rfl HR3.out Try.underlying38 rfl (by rw [qdf HLE.out]; kernel_rfl) (.tmp .nil)))) rfl ?_
   exact ⟨rfl, HB3.out⟩
theorem shaped_in : ∀ (m : Nat) (t : S27) (n : Int) (c : List Bool) (n' : Int) (c' : List Bool) (A : Option Addr) (cp : Nat) (w : World), SizeOf.sizeOf t < m → Shp t n c n' c' → c.length = 10 → 0 ≤ n → n ≤ 9 → Kd.C k27 w A t.f5.length t.f5 → t.f5.length ≤ cp →
  Calls Try.prog 16 #[.agg #[.int .i64 t.f0, .int .u64 t.f1.f0, .int .u64 t.f1.f1, .int .u64 t.f1.f2, .int .u64 t.f1.f3, .int .i64 t.f2, .int .i64 t.f3, .int .i64 t.f4, .slice A t.f5.length cp], .int .i64 n, .agg (bl c)] w fun e w' => e = .returned (.tuple #[.int .i64 n', .agg (bl c'), .bool true]) ∧ Below w.heap.size w w' := by
 intro m
 induction m with
 | zero => intro t n c n' c' A cp w h; omega
 | succ m ih =>
  rintro ⟨k, s, lo, hi, g, xs⟩ n c n' c' A cp w hm ⟨hn, c1, h1, h2⟩ hc hn0 hn9 hC hcp
  have hmx : ∀ x ∈ xs, SizeOf.sizeOf x < m := fun x hx => by
   have := List.sizeOf_lt_of_mem hx
   simp only [S27.mk.sizeOf_spec] at hm
   omega
  clear hm
  rcases hn with ⟨rfl, rfl, rfl, rfl, rfl⟩ | ⟨rfl, rfl, rfl, rfl, hx⟩ | ⟨hk, rfl, rfl, rfl, rfl, hx⟩ | ⟨rfl, rfl, rfl, rfl, hg, hg9, x, hx, hx2⟩ | ⟨rfl, rfl, rfl, hl0, hl1, hh, x, hx, hx2⟩ | ⟨rfl, rfl, rfl, rfl, hg1, hg9, hcl, hx⟩
  ·rw [if_neg (by decide)] at h1 h2
   subst h2
   exact shaped_0 m ih xs n c n' c' A cp w hmx h1 hc hn0 hn9 hC hcp
  ·rw [if_neg (by decide)] at h1 h2
   subst h2
   exact shaped_1 m ih xs n c s.f0 s.f1 s.f2 s.f3 hx n' c' A cp w hmx h1 hc hn0 hn9 hC hcp
  ·rcases hk with rfl | rfl
   ·rw [if_neg (by decide)] at h1 h2
    subst h2
    exact shaped_2 m ih xs n c hx n' c' A cp w hmx h1 hc hn0 hn9 hC hcp
   ·rw [if_neg (by decide)] at h1 h2
    subst h2
    exact shaped_3 m ih xs n c hx n' c' A cp w hmx h1 hc hn0 hn9 hC hcp
  ·rw [if_pos rfl] at h1 h2
   subst h2
   obtain ⟨gi, rfl⟩ := Int.eq_ofNat_of_zero_le (show 0 ≤ g by omega)
   rw [Int.toNat_natCast]
   exact shaped_4 m ih xs n c gi x hx hx2 hg (by omega) n' c1 A cp w hmx h1 hc hn0 hn9 hC hcp
  ·rw [if_neg (by decide)] at h1 h2
   subst h2
   rcases hh with rfl | hh
   ·exact shaped_5a m ih xs n c lo x hx hx2 ⟨hl0, hl1⟩ n' c' A cp w hmx h1 hc hn0 hn9 hC hcp
   ·exact shaped_5b m ih xs n c lo hi x hx hx2 ⟨hl0, hl1⟩ hh n' c' A cp w hmx h1 hc hn0 hn9 hC hcp
  ·rw [if_neg (by decide)] at h1 h2
   subst h2
   obtain ⟨gi, rfl⟩ := Int.eq_ofNat_of_zero_le (show 0 ≤ g by omega)
   rw [Int.toNat_natCast] at hcl
   exact shaped_6 m ih xs n c gi hx (by omega) (by omega) hcl n' c' A cp w hmx h1 hc hn0 hn9 hC hcp
open Classical in
noncomputable def qc8.f (k : Nat) (a0_0 a0_1 a0_2 a0_3 a0_4 a0_5 a0_6 a0_7 : Int) (l0_8 : List S27) (a1 : Int) (a2_0 a2_1 a2_2 a2_3 a2_4 a2_5 a2_6 a2_7 a2_8 a2_9 : Bool) : Option (Int × Bool × Bool × Bool × Bool × Bool × Bool × Bool × Bool × Bool × Bool × Bool) :=
 if h : 0 ≤ a1 ∧ a1 ≤ 9 ∧ ∃ (n' : Int) (c' : List Bool), Shp ⟨a0_0, ⟨a0_1, a0_2, a0_3, a0_4⟩, a0_5, a0_6, a0_7, l0_8⟩ a1 [a2_0, a2_1, a2_2, a2_3, a2_4, a2_5, a2_6, a2_7, a2_8, a2_9] n' c' then some (Classical.choose h.2.2, (Classical.choose (Classical.choose_spec h.2.2)).getD 0 false, (Classical.choose (Classical.choose_spec h.2.2)).getD 1 false, (Classical.choose (Classical.choose_spec h.2.2)).getD 2 false, (Classical.choose (Classical.choose_spec h.2.2)).getD 3 false, (Classical.choose (Classical.choose_spec h.2.2)).getD 4 false, (Classical.choose (Classical.choose_spec h.2.2)).getD 5 false, (Classical.choose (Classical.choose_spec h.2.2)).getD 6 false, (Classical.choose (Classical.choose_spec h.2.2)).getD 7 false, (Classical.choose (Classical.choose_spec h.2.2)).getD 8 false, (Classical.choose (Classical.choose_spec h.2.2)).getD 9 false, true) else none
theorem bl_get {c : List Bool} (h : c.length = 10) : bl c = #[.bool (c.getD 0 false), .bool (c.getD 1 false), .bool (c.getD 2 false), .bool (c.getD 3 false), .bool (c.getD 4 false), .bool (c.getD 5 false), .bool (c.getD 6 false), .bool (c.getD 7 false), .bool (c.getD 8 false), .bool (c.getD 9 false)] := by
 obtain ⟨b0, b1, b2, b3, b4, b5, b6, b7, b8, b9, rfl⟩ := qee h
 rfl
theorem qc8.calls (k : Nat) (a0_0 a0_1 a0_2 a0_3 a0_4 a0_5 a0_6 a0_7 : Int) (A0_8 : Option Addr) (c0_8 : Nat) (l0_8 : List S27) (a1 : Int) (a2_0 a2_1 a2_2 a2_3 a2_4 a2_5 a2_6 a2_7 a2_8 a2_9 : Bool) (r1 : Int) (r2 r3 r4 r5 r6 r7 r8 r9 r10 r11 r12 : Bool) (w : World) (hr0_8 : Kd.C k27 w A0_8 l0_8.length l0_8) (hc0_8 : l0_8.length ≤ c0_8) (h : qc8.f k a0_0 a0_1 a0_2 a0_3 a0_4 a0_5 a0_6 a0_7 l0_8 a1 a2_0 a2_1 a2_2 a2_3 a2_4 a2_5 a2_6 a2_7 a2_8 a2_9 = some (r1, r2, r3, r4, r5, r6, r7, r8, r9, r10, r11, r12)) :
  Calls Try.prog 16 #[.agg #[.int .i64 a0_0, .int .u64 a0_1, .int .u64 a0_2, .int .u64 a0_3, .int .u64 a0_4, .int .i64 a0_5, .int .i64 a0_6, .int .i64 a0_7, .slice A0_8 l0_8.length c0_8], .int .i64 a1, .agg #[.bool a2_0, .bool a2_1, .bool a2_2, .bool a2_3, .bool a2_4, .bool a2_5, .bool a2_6, .bool a2_7, .bool a2_8, .bool a2_9]] w fun e w' => e = .returned (.tuple #[.int .i64 r1, .agg #[.bool r2, .bool r3, .bool r4, .bool r5, .bool r6, .bool r7, .bool r8, .bool r9, .bool r10, .bool r11], .bool r12]) ∧ Below w.heap.size w w' := by
 unfold qc8.f at h
 by_cases hq : 0 ≤ a1 ∧ a1 ≤ 9 ∧ ∃ (n' : Int) (c' : List Bool), Shp ⟨a0_0, ⟨a0_1, a0_2, a0_3, a0_4⟩, a0_5, a0_6, a0_7, l0_8⟩ a1 [a2_0, a2_1, a2_2, a2_3, a2_4, a2_5, a2_6, a2_7, a2_8, a2_9] n' c'
 ·rw [dif_pos hq] at h
  have hs := Classical.choose_spec (Classical.choose_spec hq.2.2)
  generalize Classical.choose (Classical.choose_spec hq.2.2) = c' at h hs
  generalize Classical.choose hq.2.2 = n' at h hs
  simp only [Option.some.injEq, Prod.mk.injEq] at h
  obtain ⟨rfl, rfl, rfl, rfl, rfl, rfl, rfl, rfl, rfl, rfl, rfl, rfl⟩ := h
  have hl := (qfz _ _ _ _ _ _ (Nat.lt_succ_self _) hs).1
  have := shaped_in _ _ _ _ _ _ A0_8 c0_8 w (Nat.lt_succ_self _) hs rfl hq.1 hq.2.1 hr0_8 hc0_8
  rw [bl_get hl] at this
  exact this
 ·rw [dif_neg hq] at h
  cases h
theorem shaped_some (k : Nat) (xs : List S27) {n' : Int} {c' : List Bool} (hs : ShpL xs 0 (List.replicate 10 false) n' c') : ∃ q, qc8.f k 0 0 0 0 0 0 0 0 xs 0 false false false false false false false false false false = some q ∧ q.2.2.2.2.2.2.2.2.2.2.2 = true := by
 unfold qc8.f
 have hq : 0 ≤ (0 : Int) ∧ (0 : Int) ≤ 9 ∧ ∃ (n' : Int) (c' : List Bool), Shp ⟨0, ⟨0, 0, 0, 0⟩, 0, 0, 0, xs⟩ 0 [false, false, false, false, false, false, false, false, false, false] n' c' := ⟨by decide, by decide, n', c', .inl ⟨rfl, rfl, rfl, rfl, rfl⟩, c', hs, rfl⟩
 rw [dif_pos hq]
 exact ⟨_, rfl, rfl⟩
end Go.Proofs.Ytcmipoicnonaeaa.F
end
