/- Texts of this claim, 14 of 29: F50. -/

import Derived.Test.YtcmipoicnonaeaaKS12
import Derived.Test.YtcmipoicnonaeaaKS13
section
namespace Go.Proofs.Ytcmipoicnonaeaa.F
open Go.RowKit Go.Proofs.YtcmipoicnonaeaaW.PrintWords Go.Proofs.YtcmipoicnonaeaaW.PrintLast Go.Proofs.YtcmipoicnonaeaaW.PrintMore
set_option linter.unusedVariables false
set_option linter.unusedSimpArgs false
def qce (s : ByteArray) (nt : Bool) : Nat → Bool → Int → Int → Int → Int → ByteArray → Int → Int → Option (Int × Int × Int × Int × Int × Int)
 | 0, _, _, _, _, _, _, _, _ => none
 | k + 1, first, t1, t2, t3, t4, rs, p, e =>
  if e ≠ 0 then some (0, 0, 0, 0, 0, e) else
  if (s.size : Int) ≤ p then some (0, 0, 0, 0, 0, 6) else
  if p < 0 then none else
  if bt s p = 93 ∧ first = false then
   (if nt then some (Go.bits .xor .u64 (-1) t1, Go.bits .xor .u64 (-1) t2, Go.bits .xor .u64 (-1) t3, Go.bits .xor .u64 (-1) t4, IntKind.i64.wrap (p + 1), 0)
   else some (t1, t2, t3, t4, IntKind.i64.wrap (p + 1), 0)) else
  (qbl.f rs p 0).bind fun (u1, u2, u3, u4, rs', p', e') =>
  qce s nt k false (Go.bits .or .u64 t1 u1) (Go.bits .or .u64 t2 u2) (Go.bits .or .u64 t3 u3) (Go.bits .or .u64 t4 u4) rs' p' e'
def qbu.f (a0 : ByteArray) (a1 : Int) : Option (Int × Int × Int × Int × Int × Int) :=
 if a1 < 0 ∨ (a0.size : Int) ≤ a1 ∨ bt a0 a1 ≠ 91 then some (0, 0, 0, 0, 0, 1) else
 if IntKind.i64.wrap (a1 + 1) < 0 ∨ IntKind.i64.wrap (IntKind.i64.wrap (a1 + 1) + 1) < 0 then none else
 if IntKind.i64.wrap (a1 + 1) < (a0.size : Int) ∧ bt a0 (IntKind.i64.wrap (a1 + 1)) = 94 then qce a0 true (a0.size + 1) true 0 0 0 0 a0 (IntKind.i64.wrap (IntKind.i64.wrap (a1 + 1) + 1)) 0
 else qce a0 false (a0.size + 1) true 0 0 0 0 a0 (IntKind.i64.wrap (a1 + 1)) 0
def parse_T16 : Bool × List (List Nat × List Nat) := (true, [([], []), ([], []), ([1], [1]), ([2], [2]), ([3], [3]), ([4], [4]), ([0, 0], [0]), ([5, 6, 0, 1, 2, 3, 4, 5, 6], [5]), ([7, 0, 1, 2, 3, 4, 5, 6, 7], [])])
def parse_B16 : List Nat := [0, 0, 2, 6, 14, 30, 1, 127, 255]
theorem parse_tab16 : rtab .any (opsOf Try.f50 16) = parse_T16 := by kernel_rfl
theorem parse_bits16 : qct parse_T16.2 parse_B16 = true := by kernel_rfl
def parse_T17 : Bool × List (List Nat × List Nat) := (true, [([], []), ([], []), ([1], [1]), ([0, 2, 2], [0, 2]), ([3, 3, 0, 1, 2, 3], [3])])
def parse_B17 : List Nat := [0, 0, 2, 7, 15]
theorem parse_tab17 : rtab .any (opsOf Try.f50 17) = parse_T17 := by kernel_rfl
theorem parse_bits17 : qct parse_T17.2 parse_B17 = true := by kernel_rfl
def qja : Bool × List (List Nat × List Nat) := (true, [([], []), ([], []), ([1], [1]), ([2], [2]), ([3], [3]), ([0, 0], [0]), ([5, 0, 5], []), ([4, 6, 0, 1, 2, 3, 4, 5, 6], [4])])
def parse_B18 : List Nat := [0, 0, 2, 6, 14, 1, 33, 127]
theorem parse_tab18 : rtab .any (opsOf Try.f50 18) = qja := by kernel_rfl
theorem parse_bits18 : qct qja.2 parse_B18 = true := by kernel_rfl
theorem bleP {n m k : Nat} (h : Nat.ble m k = true) (hn : Nat.ble n m = true) : Nat.ble n k = true := by rw [Nat.ble_eq] at h hn ⊢; exact Nat.le_trans hn h
def qf3 (w : World) (rs : ByteArray) (p j1 v1 v2 v3 v4 : Int) : List (Nat × Tmp × Value) := [(0, 84, .agg #[.int .u64 v1, .int .u64 v2, .int .u64 v3, .int .u64 v4]), (1, 85, .pointer (some ⟨w.heap.size + 1, 0, none⟩)), (2, 86, .pointer (some ⟨w.heap.size + 1, 0, none⟩)), (3, 87, .pointer (some ⟨w.heap.size + 1, 1, none⟩)), (4, 88, .int .i64 p), (5, 89, .int .i64 j1), (7, 5, .int .i64 j1), (8, 6, .int .i64 0)]
set_option maxHeartbeats 4000000 in
set_option maxRecDepth 100000 in
theorem qh6 {Q : Exit → Act → World → Prop} {a0_ : Act} {Y0 w : World} {rs : ByteArray} {p j1 v1 v2 v3 v4 : Int} (hsz : Nat.ble 99 a0_.tmps.size = true) (o4 : a0_.tmps[4]? = some (.pointer (some ⟨w.heap.size, 0, none⟩))) (o7 : a0_.tmps[7]? = some (.pointer (some ⟨w.heap.size + 1, 0, none⟩))) (o9 : a0_.tmps[9]? = some (.pointer (some ⟨w.heap.size + 2, 0, none⟩))) (HW1 : qa0 (IntKind.i64.wrap (p + 1) = j1)) (hI4 : qak w Y0.drew (w.heap.size + 1) rs p 0) (hB4 : Below w.heap.size w Y0.drew) (hS4 : Y0.drew.heap[w.heap.size + 2]? = some (.cells #[.int .u64 v1, .int .u64 v2, .int .u64 v3, .int .u64 v4] 24 (0, 0))) (hZ4 : Y0.drew.heap[w.heap.size]? = some (.cells #[.int .u64 0, .int .u64 0, .int .u64 0, .int .u64 0] 24 (0, 0)))
  (hQ : ∀ w', qak w w' (w.heap.size + 1) rs p 0 → Below w.heap.size w w' → w'.heap[w.heap.size]? = some (.cells #[.int .u64 v1, .int .u64 v2, .int .u64 v3, .int .u64 v4] 24 (0, 0)) → Q .normal (qb0 a0_ (fun _ => true) (qf3 w rs p j1 v1 v2 v3 v4)) w') : (Code.region 16 (opsOf Try.f50 16) true).wp Try.prog Q a0_ Y0 := by
 have HQ := qa0.mk hQ
 have HhI4 := qa0.mk hI4
 have HhB4 := qa0.mk hB4
 have HhS4 := qa0.mk hS4
 have HhZ4 := qa0.mk hZ4
 clear hQ hI4 hB4 hS4 hZ4
 simp only [opsOf, Try.f50, qdw, Option.bind_some, Option.getD_some, Nat.reduceEqDiff, Nat.reduceBEq, beq_self_eq_true, if_true, if_false, ↓reduceIte, Bool.false_eq_true]
 refine qe1 (n := 9) (S := fun w' => True) (ds := []) #[false, false, false, false, false, false, false, false, false] (by kernel_rfl) rfl rfl trivial (fun hHeld => ?_)
 refine qd4 parse_tab16 parse_bits16 (fun HT_ HW_ => ?_)
 refine qe6 [0, 1, 2, 3, 4, 5, 6, 7, 8] (fun a0_ b_ a w' => a = qb0 a0_ b_ [(0, 84, .agg #[.int .u64 v1, .int .u64 v2, .int .u64 v3, .int .u64 v4]), (1, 85, .pointer (some ⟨w.heap.size + 1, 0, none⟩)), (2, 86, .pointer (some ⟨w.heap.size + 1, 0, none⟩)), (3, 87, .pointer (some ⟨w.heap.size + 1, 1, none⟩)), (4, 88, .int .i64 p), (5, 89, .int .i64 j1), (7, 5, .int .i64 j1), (8, 6, .int .i64 0)] ∧ qak w w' (w.heap.size + 1) rs p 0 ∧ Below w.heap.size w w' ∧ w'.heap[w.heap.size + 2]? = some (.cells #[.int .u64 v1, .int .u64 v2, .int .u64 v3, .int .u64 v4] 24 (0, 0)) ∧ (b_ 6 = false → w'.heap[w.heap.size]? = some (.cells #[.int .u64 0, .int .u64 0, .int .u64 0, .int .u64 0] 24 (0, 0))) ∧ (b_ 6 = true → w'.heap[w.heap.size]? = some (.cells #[.int .u64 v1, .int .u64 v2, .int .u64 v3, .int .u64 v4] 24 (0, 0)))) HT_.out HW_.out (by kernel_rfl) (by kernel_rfl) ?_ ?_ ?_
 ·exact ⟨by simp only [qb0, Bool.false_eq_true, if_false], HhI4.out, HhB4.out, HhS4.out, (fun _ => HhZ4.out), (fun h => by cases h)⟩
 ·skip
  refine qab ?_ ?_
  ·rintro b_ a w' ⟨ha, hI, hB, hS, hZ, hz⟩ hb_ hon hoff
   refine ⟨_, rfl, fun K hK_ => ?_⟩
   have e9 : a.tmps[9]? = some (.pointer (some ⟨w.heap.size + 2, 0, none⟩)) := by rw [ha]; exact (qb4 rfl).trans o9
   replace ha := qa0.mk ha
   have sr := hS
   have sf0 := qa1 sr 0
   have sf1 := qa1 sr 1
   have sf2 := qa1 sr 2
   have sf3 := qa1 sr 3
   have sc0 : w'.cell? ⟨w.heap.size + 2, 0, none⟩ = some (Value.int .u64 v1) := (qa2 sr 0).trans rfl
   have sc1 : w'.cell? ⟨w.heap.size + 2, 1, none⟩ = some (Value.int .u64 v2) := (qa2 sr 1).trans rfl
   have sc2 : w'.cell? ⟨w.heap.size + 2, 2, none⟩ = some (Value.int .u64 v3) := (qa2 sr 2).trans rfl
   have sc3 : w'.cell? ⟨w.heap.size + 2, 3, none⟩ = some (Value.int .u64 v4) := (qa2 sr 3).trans rfl
   clear sr
   refine qar (w1 := w') (v := .agg #[.int .u64 v1, .int .u64 v2, .int .u64 v3, .int .u64 v4]) (by rfl) rfl (by go_simp; try rfl) ?_
   exact hK_.out _ _ ⟨by rw [ha.out]; exact qac 0 hb_ rfl rfl rfl, hI, hB, hS, hZ, hz⟩
  refine qab ?_ ?_
  ·rintro b_ a w' ⟨ha, hI, hB, hS, hZ, hz⟩ hb_ hon hoff
   refine ⟨_, rfl, fun K hK_ => ?_⟩
   have e7 : a.tmps[7]? = some (.pointer (some ⟨w.heap.size + 1, 0, none⟩)) := by rw [ha]; exact (qb4 rfl).trans o7
   replace ha := qa0.mk ha
   refine qar (w1 := w') (v := .pointer (some ⟨w.heap.size + 1, 0, none⟩)) (by rfl) rfl (by go_simp; try rfl) ?_
   exact hK_.out _ _ ⟨by rw [ha.out]; exact qac 1 hb_ rfl rfl rfl, hI, hB, hS, hZ, hz⟩
  refine qab ?_ ?_
  ·rintro b_ a w' ⟨ha, hI, hB, hS, hZ, hz⟩ hb_ hon hoff
   refine ⟨_, rfl, fun K hK_ => ?_⟩
   have e85 : a.tmps[85]? = some (.pointer (some ⟨w.heap.size + 1, 0, none⟩)) := by rw [ha]; exact qaf (e := (1, 85, .pointer (some ⟨w.heap.size + 1, 0, none⟩))) 1 rfl rfl (hon 1 (by kernel_rfl)) (bleP hsz rfl)
   replace ha := qa0.mk ha
   refine qar (w1 := w') (v := .pointer (some ⟨w.heap.size + 1, 0, none⟩)) (by rfl) rfl (by go_simp; try rfl) ?_
   exact hK_.out _ _ ⟨by rw [ha.out]; exact qac 2 hb_ rfl rfl rfl, hI, hB, hS, hZ, hz⟩
  refine qab ?_ ?_
  ·rintro b_ a w' ⟨ha, hI, hB, hS, hZ, hz⟩ hb_ hon hoff
   refine ⟨_, rfl, fun K hK_ => ?_⟩
   have e86 : a.tmps[86]? = some (.pointer (some ⟨w.heap.size + 1, 0, none⟩)) := by rw [ha]; exact qaf (e := (2, 86, .pointer (some ⟨w.heap.size + 1, 0, none⟩))) 2 rfl rfl (hon 2 (by kernel_rfl)) (bleP hsz rfl)
   replace ha := qa0.mk ha
   refine qar (w1 := w') (v := .pointer (some ⟨w.heap.size + 1, 1, none⟩)) (by rfl) rfl (by go_simp; try rfl) ?_
   exact hK_.out _ _ ⟨by rw [ha.out]; exact qac 3 hb_ rfl rfl rfl, hI, hB, hS, hZ, hz⟩
  refine qab ?_ ?_
  ·rintro b_ a w' ⟨ha, hI, hB, hS, hZ, hz⟩ hb_ hon hoff
   refine ⟨_, rfl, fun K hK_ => ?_⟩
   have e87 : a.tmps[87]? = some (.pointer (some ⟨w.heap.size + 1, 1, none⟩)) := by rw [ha]; exact qaf (e := (3, 87, .pointer (some ⟨w.heap.size + 1, 1, none⟩))) 3 rfl rfl (hon 3 (by kernel_rfl)) (bleP hsz rfl)
   replace ha := qa0.mk ha
   have hIc := hI
   obtain ⟨HG, hg⟩ := hIc
   have rc0 := qaz HG
   have rc1 := qb2 HG
   have rc2 := qb1 HG
   have rf0 := qa1 HG 0
   have rf1 := qa1 HG 1
   have rf2 := qa1 HG 2
   clear HG hg
   refine qar (w1 := w') (v := .int .i64 p) (by rfl) rfl (by go_simp; try rfl) ?_
   exact hK_.out _ _ ⟨by rw [ha.out]; exact qac 4 hb_ rfl rfl rfl, hI, hB, hS, hZ, hz⟩
  refine qab ?_ ?_
  ·rintro b_ a w' ⟨ha, hI, hB, hS, hZ, hz⟩ hb_ hon hoff
   refine ⟨_, rfl, fun K hK_ => ?_⟩
   have e88 : a.tmps[88]? = some (.int .i64 p) := by rw [ha]; exact qaf (e := (4, 88, .int .i64 p)) 4 rfl rfl (hon 4 (by kernel_rfl)) (bleP hsz rfl)
   replace ha := qa0.mk ha
   have hw1 := HW1.out
   refine qar (w1 := w') (v := .int .i64 j1) (by rfl) rfl (by go_simp; first | done | rfl | exact congrArg _ hw1 | (rw [hw1])) ?_
   exact hK_.out _ _ ⟨by rw [ha.out]; exact qac 5 hb_ rfl rfl rfl, hI, hB, hS, hZ, hz⟩
  refine qab ?_ ?_
  ·rintro b_ a w' ⟨ha, hI, hB, hS, hZ, hz⟩ hb_ hon hoff
   refine ⟨_, rfl, fun K hK_ => ?_⟩
   have e4 : a.tmps[4]? = some (.pointer (some ⟨w.heap.size, 0, none⟩)) := by rw [ha]; exact (qb4 rfl).trans o4
   have e84 : a.tmps[84]? = some (.agg #[.int .u64 v1, .int .u64 v2, .int .u64 v3, .int .u64 v4]) := by rw [ha]; exact qaf (e := (0, 84, .agg #[.int .u64 v1, .int .u64 v2, .int .u64 v3, .int .u64 v4])) 0 rfl rfl (hon 0 (by kernel_rfl)) (bleP hsz rfl)
   replace hZ := hZ hb_
   replace ha := qa0.mk ha
   have zr := hZ
   have zf0 := qa1 zr 0
   have zf1 := qa1 zr 1
   have zf2 := qa1 zr 2
   have zf3 := qa1 zr 3
   have zc0 : w'.cell? ⟨w.heap.size, 0, none⟩ = some (Value.int .u64 0) := (qa2 zr 0).trans rfl
   have zc1 : w'.cell? ⟨w.heap.size, 1, none⟩ = some (Value.int .u64 0) := (qa2 zr 1).trans rfl
   have zc2 : w'.cell? ⟨w.heap.size, 2, none⟩ = some (Value.int .u64 0) := (qa2 zr 2).trans rfl
   have zc3 : w'.cell? ⟨w.heap.size, 3, none⟩ = some (Value.int .u64 0) := (qa2 zr 3).trans rfl
   clear zr
   refine qgg (w1 := ((((w'.setCell ⟨w.heap.size, 0, none⟩ (.int .u64 v1)).setCell ⟨w.heap.size, 1, none⟩ (.int .u64 v2)).setCell ⟨w.heap.size, 2, none⟩ (.int .u64 v3)).setCell ⟨w.heap.size, 3, none⟩ (.int .u64 v4))) (by rfl) rfl (by go_simp; try rfl) ?_
   exact hK_.out _ _ ⟨by rw [ha.out]; exact (qd1 rfl).symm, ((((hI.far (show w.heap.size + 1 ≠ w.heap.size by omega) _).far (show w.heap.size + 1 ≠ w.heap.size by omega) _).far (show w.heap.size + 1 ≠ w.heap.size by omega) _).far (show w.heap.size + 1 ≠ w.heap.size by omega) _), (qa9 (qa9 (qa9 (qa9 hB (Nat.le_refl _)) (Nat.le_refl _)) (Nat.le_refl _)) (Nat.le_refl _)), ((Below.heap_setCell _ ⟨w.heap.size, 3, none⟩ _ _ (by show w.heap.size + 2 ≠ w.heap.size; omega)).trans ((Below.heap_setCell _ ⟨w.heap.size, 2, none⟩ _ _ (by show w.heap.size + 2 ≠ w.heap.size; omega)).trans ((Below.heap_setCell _ ⟨w.heap.size, 1, none⟩ _ _ (by show w.heap.size + 2 ≠ w.heap.size; omega)).trans ((Below.heap_setCell _ ⟨w.heap.size, 0, none⟩ _ _ (by show w.heap.size + 2 ≠ w.heap.size; omega)).trans hS)))), (fun h => by cases h), (fun _ => set4 hZ _ _ _ _)⟩
  refine qab ?_ ?_
  ·rintro b_ a w' ⟨ha, hI, hB, hS, hZ, hz⟩ hb_ hon hoff
   refine ⟨_, rfl, fun K hK_ => ?_⟩
   have e89 : a.tmps[89]? = some (.int .i64 j1) := by rw [ha]; exact qaf (e := (5, 89, .int .i64 j1)) 5 rfl rfl (hon 5 (by kernel_rfl)) (bleP hsz rfl)
   replace ha := qa0.mk ha
   refine qar (w1 := w') (v := .int .i64 j1) (by rfl) rfl (by go_simp; try rfl) ?_
   exact hK_.out _ _ ⟨by rw [ha.out]; exact qac 6 hb_ rfl rfl rfl, hI, hB, hS, hZ, hz⟩
  refine qab ?_ ?_
  ·rintro b_ a w' ⟨ha, hI, hB, hS, hZ, hz⟩ hb_ hon hoff
   refine ⟨_, rfl, fun K hK_ => ?_⟩
   replace ha := qa0.mk ha
   refine qar (w1 := w') (v := .int .i64 0) (by rfl) rfl (by go_simp; try rfl) ?_
   exact hK_.out _ _ ⟨by rw [ha.out]; exact qac 7 hb_ rfl rfl rfl, hI, hB, hS, hZ, hz⟩
  exact qd8
 ·rintro b_ a w' hall ⟨ha, hI, hB, hS, hZ, hz⟩
  have hb0_ := hall 0 (by kernel_rfl)
  have hb1_ := hall 1 (by kernel_rfl)
  have hb2_ := hall 2 (by kernel_rfl)
  have hb3_ := hall 3 (by kernel_rfl)
  have hb4_ := hall 4 (by kernel_rfl)
  have hb5_ := hall 5 (by kernel_rfl)
  have hb6_ := hall 6 (by kernel_rfl)
  have hb7_ := hall 7 (by kernel_rfl)
  have hb8_ := hall 8 (by kernel_rfl)
  have hq := HQ.out w' (hI) (hB) (hz hb6_)
  unfold qf3 at hq
  subst ha
  simp only [qb0, hb0_, hb1_, hb2_, hb3_, hb4_, hb5_, hb7_, hb8_, if_true] at hq ⊢
  exact hq
def qdt (w : World) (rs rs' : ByteArray) (p p' e' t1 t2 t3 t4 u1 u2 u3 u4 : Int) : List (Nat × Tmp × Value) := [(0, 90, .agg #[.int .u64 t1, .int .u64 t2, .int .u64 t3, .int .u64 t4]), (1, 91, .pointer (some ⟨w.heap.size + 1, 0, none⟩)), (2, 92, .agg #[.int .u64 u1, .int .u64 u2, .int .u64 u3, .int .u64 u4]), (3, 93, .agg #[.int .u64 (Go.bits .or .u64 t1 u1), .int .u64 (Go.bits .or .u64 t2 u2), .int .u64 (Go.bits .or .u64 t3 u3), .int .u64 (Go.bits .or .u64 t4 u4)])]
set_option maxHeartbeats 4000000 in
set_option maxRecDepth 100000 in
theorem qeo {Q : Exit → Act → World → Prop} {a0_ : Act} {Y0 w : World} {rs rs' : ByteArray} {p p' e' t1 t2 t3 t4 u1 u2 u3 u4 : Int} (hsz : Nat.ble 99 a0_.tmps.size = true) (o7 : a0_.tmps[7]? = some (.pointer (some ⟨w.heap.size + 1, 0, none⟩))) (o9 : a0_.tmps[9]? = some (.pointer (some ⟨w.heap.size + 2, 0, none⟩))) (HM : qa0 (ML w)) (HSP : qa0 (qbl.f rs p 0 = some (u1, u2, u3, u4, rs', p', e'))) (hI4 : qak w Y0.drew (w.heap.size + 1) rs p 0) (hB4 : Below w.heap.size w Y0.drew) (hS4 : Y0.drew.heap[w.heap.size + 2]? = some (.cells #[.int .u64 t1, .int .u64 t2, .int .u64 t3, .int .u64 t4] 24 (0, 0))) (hZ4 : Y0.drew.heap[w.heap.size]? = some (.cells #[.int .u64 0, .int .u64 0, .int .u64 0, .int .u64 0] 24 (0, 0)))
  (hQ : ∀ w', Below w.heap.size w w' → w'.heap[w.heap.size]? = some (.cells #[.int .u64 0, .int .u64 0, .int .u64 0, .int .u64 0] 24 (0, 0)) → qak w w' (w.heap.size + 1) rs' p' e' → w'.heap[w.heap.size + 2]? = some (.cells #[.int .u64 (Go.bits .or .u64 t1 u1), .int .u64 (Go.bits .or .u64 t2 u2), .int .u64 (Go.bits .or .u64 t3 u3), .int .u64 (Go.bits .or .u64 t4 u4)] 24 (0, 0)) → Q .normal (qb0 a0_ (fun _ => true) (qdt w rs rs' p p' e' t1 t2 t3 t4 u1 u2 u3 u4)) w') : (Code.region 17 (opsOf Try.f50 17) true).wp Try.prog Q a0_ Y0 := by
 have HQ := qa0.mk hQ
 have HhI4 := qa0.mk hI4
 have HhB4 := qa0.mk hB4
 have HhS4 := qa0.mk hS4
 have HhZ4 := qa0.mk hZ4
 clear hQ hI4 hB4 hS4 hZ4
 simp only [opsOf, Try.f50, qdw, Option.bind_some, Option.getD_some, Nat.reduceEqDiff, Nat.reduceBEq, beq_self_eq_true, if_true, if_false, ↓reduceIte, Bool.false_eq_true]
 refine qe1 (n := 5) (S := fun w' => True) (ds := []) #[false, false, false, false, false] (by kernel_rfl) rfl rfl trivial (fun hHeld => ?_)
 refine qd4 parse_tab17 parse_bits17 (fun HT_ HW_ => ?_)
 refine qe6 [0, 1, 2, 3, 4] (fun a0_ b_ a w' => a = qb0 a0_ b_ [(0, 90, .agg #[.int .u64 t1, .int .u64 t2, .int .u64 t3, .int .u64 t4]), (1, 91, .pointer (some ⟨w.heap.size + 1, 0, none⟩)), (2, 92, .agg #[.int .u64 u1, .int .u64 u2, .int .u64 u3, .int .u64 u4]), (3, 93, .agg #[.int .u64 (Go.bits .or .u64 t1 u1), .int .u64 (Go.bits .or .u64 t2 u2), .int .u64 (Go.bits .or .u64 t3 u3), .int .u64 (Go.bits .or .u64 t4 u4)])] ∧ Below w.heap.size w w' ∧ w'.heap[w.heap.size]? = some (.cells #[.int .u64 0, .int .u64 0, .int .u64 0, .int .u64 0] 24 (0, 0)) ∧ (b_ 2 = false → qak w w' (w.heap.size + 1) rs p 0) ∧ (b_ 2 = true → qak w w' (w.heap.size + 1) rs' p' e') ∧ (b_ 4 = false → w'.heap[w.heap.size + 2]? = some (.cells #[.int .u64 t1, .int .u64 t2, .int .u64 t3, .int .u64 t4] 24 (0, 0))) ∧ (b_ 4 = true → w'.heap[w.heap.size + 2]? = some (.cells #[.int .u64 (Go.bits .or .u64 t1 u1), .int .u64 (Go.bits .or .u64 t2 u2), .int .u64 (Go.bits .or .u64 t3 u3), .int .u64 (Go.bits .or .u64 t4 u4)] 24 (0, 0)))) HT_.out HW_.out (by kernel_rfl) (by kernel_rfl) ?_ ?_ ?_
 ·exact ⟨by simp only [qb0, Bool.false_eq_true, if_false], HhB4.out, HhZ4.out, (fun _ => HhI4.out), (fun h => by cases h), (fun _ => HhS4.out), (fun h => by cases h)⟩
 ·skip
  refine qab ?_ ?_
  ·rintro b_ a w' ⟨ha, hB, hZ, hI, hi, hS, hs⟩ hb_ hon hoff
   refine ⟨_, rfl, fun K hK_ => ?_⟩
   have e9 : a.tmps[9]? = some (.pointer (some ⟨w.heap.size + 2, 0, none⟩)) := by rw [ha]; exact (qb4 rfl).trans o9
   replace ha := qa0.mk ha
   have hS0 := hS (hoff 4 (by kernel_rfl))
   have sr := hS0
   have sf0 := qa1 sr 0
   have sf1 := qa1 sr 1
   have sf2 := qa1 sr 2
   have sf3 := qa1 sr 3
   have sc0 : w'.cell? ⟨w.heap.size + 2, 0, none⟩ = some (Value.int .u64 t1) := (qa2 sr 0).trans rfl
   have sc1 : w'.cell? ⟨w.heap.size + 2, 1, none⟩ = some (Value.int .u64 t2) := (qa2 sr 1).trans rfl
   have sc2 : w'.cell? ⟨w.heap.size + 2, 2, none⟩ = some (Value.int .u64 t3) := (qa2 sr 2).trans rfl
   have sc3 : w'.cell? ⟨w.heap.size + 2, 3, none⟩ = some (Value.int .u64 t4) := (qa2 sr 3).trans rfl
   clear sr
   refine qar (w1 := w') (v := .agg #[.int .u64 t1, .int .u64 t2, .int .u64 t3, .int .u64 t4]) (by rfl) rfl (by go_simp; try rfl) ?_
   exact hK_.out _ _ ⟨by rw [ha.out]; exact qac 0 hb_ rfl rfl rfl, hB, hZ, hI, hi, hS, hs⟩
  refine qab ?_ ?_
  ·rintro b_ a w' ⟨ha, hB, hZ, hI, hi, hS, hs⟩ hb_ hon hoff
   refine ⟨_, rfl, fun K hK_ => ?_⟩
   have e7 : a.tmps[7]? = some (.pointer (some ⟨w.heap.size + 1, 0, none⟩)) := by rw [ha]; exact (qb4 rfl).trans o7
   replace ha := qa0.mk ha
   refine qar (w1 := w') (v := .pointer (some ⟨w.heap.size + 1, 0, none⟩)) (by rfl) rfl (by go_simp; try rfl) ?_
   exact hK_.out _ _ ⟨by rw [ha.out]; exact qac 1 hb_ rfl rfl rfl, hB, hZ, hI, hi, hS, hs⟩
  refine qab ?_ ?_
  ·rintro b_ a w' ⟨ha, hB, hZ, hI, hi, hS, hs⟩ hb_ hon hoff
   refine ⟨_, rfl, fun K hK_ => ?_⟩
   have e91 : a.tmps[91]? = some (.pointer (some ⟨w.heap.size + 1, 0, none⟩)) := by rw [ha]; exact qaf (e := (1, 91, .pointer (some ⟨w.heap.size + 1, 0, none⟩))) 1 rfl rfl (hon 1 (by kernel_rfl)) (bleP hsz rfl)
   refine qhb Try.func64 (by kernel_rfl) rfl #[.pointer (some ⟨w.heap.size + 1, 0, none⟩)] (by rfl) rfl rfl (by simp only [List.map_toArray, List.map_cons, List.map_nil, Act.eval, Array.getD_eq_getD_getElem?, e91, Option.getD_some]) ?_
   refine (qbl.calls (w.heap.size + 1) rs p 0 u1 u2 u3 u4 rs' p' e' w _ HM.out (hI hb_) hB HSP.out).mono ?_
   rintro ee w10 ⟨rfl, hi10, hb10, hk10⟩
   refine ⟨_, rfl, ?_⟩
   replace ha := qa0.mk ha
   have hS0 := hS (hoff 4 (by kernel_rfl))
   exact hK_.out _ _ ⟨by rw [ha.out]; exact qac 2 hb_ rfl rfl rfl, hb10, (hk10.2 w.heap.size (qam hZ) (by omega) (by simp)).trans hZ, (fun h => by cases h), (fun _ => hi10), (fun _ => (hk10.2 (w.heap.size + 2) (qam hS0) (by omega) (by simp)).trans hS0), (fun h => absurd ((hoff 4 (by kernel_rfl)).symm.trans h) (by decide))⟩
  refine qab ?_ ?_
  ·rintro b_ a w' ⟨ha, hB, hZ, hI, hi, hS, hs⟩ hb_ hon hoff
   refine ⟨_, rfl, fun K hK_ => ?_⟩
   have e90 : a.tmps[90]? = some (.agg #[.int .u64 t1, .int .u64 t2, .int .u64 t3, .int .u64 t4]) := by rw [ha]; exact qaf (e := (0, 90, .agg #[.int .u64 t1, .int .u64 t2, .int .u64 t3, .int .u64 t4])) 0 rfl rfl (hon 0 (by kernel_rfl)) (bleP hsz rfl)
   have e92 : a.tmps[92]? = some (.agg #[.int .u64 u1, .int .u64 u2, .int .u64 u3, .int .u64 u4]) := by rw [ha]; exact qaf (e := (2, 92, .agg #[.int .u64 u1, .int .u64 u2, .int .u64 u3, .int .u64 u4])) 2 rfl rfl (hon 2 (by kernel_rfl)) (bleP hsz rfl)
   refine qhb Try.func63 (by kernel_rfl) rfl #[.agg #[.int .u64 t1, .int .u64 t2, .int .u64 t3, .int .u64 t4], .agg #[.int .u64 u1, .int .u64 u2, .int .u64 u3, .int .u64 u4]] (by rfl) rfl rfl (by simp only [List.map_toArray, List.map_cons, List.map_nil, Act.eval, Array.getD_eq_getD_getElem?, e90, e92, Option.getD_some]) ?_
   refine (qhd.calls t1 t2 t3 t4 u1 u2 u3 u4 _ _ _ _ _ rfl).mono ?_
   rintro ee w10 ⟨rfl, hb10⟩
   refine ⟨_, rfl, ?_⟩
   replace ha := qa0.mk ha
   exact hK_.out _ _ ⟨by rw [ha.out]; exact qac 3 hb_ rfl rfl rfl, qca hB hB.size hb10, qae hZ hb10, (fun h => (hI h).below hb10), (fun h => (hi h).below hb10), (fun h => qae (hS h) hb10), (fun h => qae (hs h) hb10)⟩
  refine qab ?_ ?_
  ·rintro b_ a w' ⟨ha, hB, hZ, hI, hi, hS, hs⟩ hb_ hon hoff
   refine ⟨_, rfl, fun K hK_ => ?_⟩
   have e9 : a.tmps[9]? = some (.pointer (some ⟨w.heap.size + 2, 0, none⟩)) := by rw [ha]; exact (qb4 rfl).trans o9
   have e93 : a.tmps[93]? = some (.agg #[.int .u64 (Go.bits .or .u64 t1 u1), .int .u64 (Go.bits .or .u64 t2 u2), .int .u64 (Go.bits .or .u64 t3 u3), .int .u64 (Go.bits .or .u64 t4 u4)]) := by rw [ha]; exact qaf (e := (3, 93, .agg #[.int .u64 (Go.bits .or .u64 t1 u1), .int .u64 (Go.bits .or .u64 t2 u2), .int .u64 (Go.bits .or .u64 t3 u3), .int .u64 (Go.bits .or .u64 t4 u4)])) 3 rfl rfl (hon 3 (by kernel_rfl)) (bleP hsz rfl)
   replace ha := qa0.mk ha
   have hS0 := hS hb_
   have hI0 := hi (hon 2 (by kernel_rfl))
   have sr := hS0
   have sf0 := qa1 sr 0
   have sf1 := qa1 sr 1
   have sf2 := qa1 sr 2
   have sf3 := qa1 sr 3
   have sc0 : w'.cell? ⟨w.heap.size + 2, 0, none⟩ = some (Value.int .u64 t1) := (qa2 sr 0).trans rfl
   have sc1 : w'.cell? ⟨w.heap.size + 2, 1, none⟩ = some (Value.int .u64 t2) := (qa2 sr 1).trans rfl
   have sc2 : w'.cell? ⟨w.heap.size + 2, 2, none⟩ = some (Value.int .u64 t3) := (qa2 sr 2).trans rfl
   have sc3 : w'.cell? ⟨w.heap.size + 2, 3, none⟩ = some (Value.int .u64 t4) := (qa2 sr 3).trans rfl
   clear sr
   refine qgg (w1 := ((((w'.setCell ⟨w.heap.size + 2, 0, none⟩ (.int .u64 (Go.bits .or .u64 t1 u1))).setCell ⟨w.heap.size + 2, 1, none⟩ (.int .u64 (Go.bits .or .u64 t2 u2))).setCell ⟨w.heap.size + 2, 2, none⟩ (.int .u64 (Go.bits .or .u64 t3 u3))).setCell ⟨w.heap.size + 2, 3, none⟩ (.int .u64 (Go.bits .or .u64 t4 u4)))) (by rfl) rfl (by go_simp; try rfl) ?_
   exact hK_.out _ _ ⟨by rw [ha.out]; exact (qd1 rfl).symm, (qa9 (qa9 (qa9 (qa9 hB (Nat.le_add_right _ _)) (Nat.le_add_right _ _)) (Nat.le_add_right _ _)) (Nat.le_add_right _ _)), ((Below.heap_setCell _ ⟨w.heap.size + 2, 3, none⟩ _ _ (by show w.heap.size ≠ w.heap.size + 2; omega)).trans ((Below.heap_setCell _ ⟨w.heap.size + 2, 2, none⟩ _ _ (by show w.heap.size ≠ w.heap.size + 2; omega)).trans ((Below.heap_setCell _ ⟨w.heap.size + 2, 1, none⟩ _ _ (by show w.heap.size ≠ w.heap.size + 2; omega)).trans ((Below.heap_setCell _ ⟨w.heap.size + 2, 0, none⟩ _ _ (by show w.heap.size ≠ w.heap.size + 2; omega)).trans hZ)))), (fun h => absurd ((hon 2 (by kernel_rfl)).symm.trans h) (by decide)), (fun _ => ((((hI0.far (show w.heap.size + 1 ≠ w.heap.size + 2 by omega) _).far (show w.heap.size + 1 ≠ w.heap.size + 2 by omega) _).far (show w.heap.size + 1 ≠ w.heap.size + 2 by omega) _).far (show w.heap.size + 1 ≠ w.heap.size + 2 by omega) _)), (fun h => by cases h), (fun _ => set4 hS0 _ _ _ _)⟩
  exact qd8
 ·rintro b_ a w' hall ⟨ha, hB, hZ, hI, hi, hS, hs⟩
  have hb0_ := hall 0 (by kernel_rfl)
  have hb1_ := hall 1 (by kernel_rfl)
  have hb2_ := hall 2 (by kernel_rfl)
  have hb3_ := hall 3 (by kernel_rfl)
  have hb4_ := hall 4 (by kernel_rfl)
  have hq := HQ.out w' (hB) (hZ) (hi hb2_) (hs hb4_)
  unfold qdt at hq
  subst ha
  simp only [qb0, hb0_, hb1_, hb2_, hb3_, if_true] at hq ⊢
  exact hq
def qds (w : World) (rs : ByteArray) (p x : Int) : List (Nat × Tmp × Value) := [(0, 94, .agg #[.int .u64 0, .int .u64 0, .int .u64 0, .int .u64 0]), (1, 95, .pointer (some ⟨w.heap.size + 1, 0, none⟩)), (2, 96, .pointer (some ⟨w.heap.size + 1, 0, none⟩)), (3, 97, .pointer (some ⟨w.heap.size + 1, 2, none⟩)), (4, 98, .int .i64 x), (6, 5, .int .i64 0), (7, 6, .int .i64 x)]
set_option maxHeartbeats 4000000 in
set_option maxRecDepth 100000 in
theorem qen {Q : Exit → Act → World → Prop} {a0_ : Act} {Y0 w : World} {rs : ByteArray} {p x : Int} (hsz : Nat.ble 99 a0_.tmps.size = true) (o4 : a0_.tmps[4]? = some (.pointer (some ⟨w.heap.size, 0, none⟩))) (o7 : a0_.tmps[7]? = some (.pointer (some ⟨w.heap.size + 1, 0, none⟩)))  (hI4 : qak w Y0.drew (w.heap.size + 1) rs p x) (hB4 : Below w.heap.size w Y0.drew) (hZ4 : Y0.drew.heap[w.heap.size]? = some (.cells #[.int .u64 0, .int .u64 0, .int .u64 0, .int .u64 0] 24 (0, 0)))
  (hQ : ∀ w', qak w w' (w.heap.size + 1) rs p x → Below w.heap.size w w' → w'.heap[w.heap.size]? = some (.cells #[.int .u64 0, .int .u64 0, .int .u64 0, .int .u64 0] 24 (0, 0)) → Q .normal (qb0 a0_ (fun _ => true) (qds w rs p x)) w') : (Code.region 18 (opsOf Try.f50 18) true).wp Try.prog Q a0_ Y0 := by
 have HQ := qa0.mk hQ
 have HhI4 := qa0.mk hI4
 have HhB4 := qa0.mk hB4
 have HhZ4 := qa0.mk hZ4
 clear hQ hI4 hB4 hZ4
 simp only [opsOf, Try.f50, qdw, Option.bind_some, Option.getD_some, Nat.reduceEqDiff, Nat.reduceBEq, beq_self_eq_true, if_true, if_false, ↓reduceIte, Bool.false_eq_true]
 refine qe1 (n := 8) (S := fun w' => True) (ds := []) #[false, false, false, false, false, false, false, false] (by kernel_rfl) rfl rfl trivial (fun hHeld => ?_)
 refine qd4 parse_tab18 parse_bits18 (fun HT_ HW_ => ?_)
 refine qe6 [0, 1, 2, 3, 4, 5, 6, 7] (fun a0_ b_ a w' => a = qb0 a0_ b_ [(0, 94, .agg #[.int .u64 0, .int .u64 0, .int .u64 0, .int .u64 0]), (1, 95, .pointer (some ⟨w.heap.size + 1, 0, none⟩)), (2, 96, .pointer (some ⟨w.heap.size + 1, 0, none⟩)), (3, 97, .pointer (some ⟨w.heap.size + 1, 2, none⟩)), (4, 98, .int .i64 x), (6, 5, .int .i64 0), (7, 6, .int .i64 x)] ∧ qak w w' (w.heap.size + 1) rs p x ∧ Below w.heap.size w w' ∧ w'.heap[w.heap.size]? = some (.cells #[.int .u64 0, .int .u64 0, .int .u64 0, .int .u64 0] 24 (0, 0))) HT_.out HW_.out (by kernel_rfl) (by kernel_rfl) ?_ ?_ ?_
 ·exact ⟨by simp only [qb0, Bool.false_eq_true, if_false], HhI4.out, HhB4.out, HhZ4.out⟩
 ·skip
  refine qab ?_ ?_
  ·rintro b_ a w' ⟨ha, hI, hB, hZ⟩ hb_ hon hoff
   refine ⟨_, rfl, fun K hK_ => ?_⟩
   replace ha := qa0.mk ha
   refine qar (w1 := w') (v := .agg #[.int .u64 0, .int .u64 0, .int .u64 0, .int .u64 0]) (by rfl) rfl (by go_simp; try rfl) ?_
   exact hK_.out _ _ ⟨by rw [ha.out]; exact qac 0 hb_ rfl rfl rfl, hI, hB, hZ⟩
  refine qab ?_ ?_
  ·rintro b_ a w' ⟨ha, hI, hB, hZ⟩ hb_ hon hoff
   refine ⟨_, rfl, fun K hK_ => ?_⟩
   have e7 : a.tmps[7]? = some (.pointer (some ⟨w.heap.size + 1, 0, none⟩)) := by rw [ha]; exact (qb4 rfl).trans o7
   replace ha := qa0.mk ha
   refine qar (w1 := w') (v := .pointer (some ⟨w.heap.size + 1, 0, none⟩)) (by rfl) rfl (by go_simp; try rfl) ?_
   exact hK_.out _ _ ⟨by rw [ha.out]; exact qac 1 hb_ rfl rfl rfl, hI, hB, hZ⟩
  refine qab ?_ ?_
  ·rintro b_ a w' ⟨ha, hI, hB, hZ⟩ hb_ hon hoff
   refine ⟨_, rfl, fun K hK_ => ?_⟩
   have e95 : a.tmps[95]? = some (.pointer (some ⟨w.heap.size + 1, 0, none⟩)) := by rw [ha]; exact qaf (e := (1, 95, .pointer (some ⟨w.heap.size + 1, 0, none⟩))) 1 rfl rfl (hon 1 (by kernel_rfl)) (bleP hsz rfl)
   replace ha := qa0.mk ha
   refine qar (w1 := w') (v := .pointer (some ⟨w.heap.size + 1, 0, none⟩)) (by rfl) rfl (by go_simp; try rfl) ?_
   exact hK_.out _ _ ⟨by rw [ha.out]; exact qac 2 hb_ rfl rfl rfl, hI, hB, hZ⟩
  refine qab ?_ ?_
  ·rintro b_ a w' ⟨ha, hI, hB, hZ⟩ hb_ hon hoff
   refine ⟨_, rfl, fun K hK_ => ?_⟩
   have e96 : a.tmps[96]? = some (.pointer (some ⟨w.heap.size + 1, 0, none⟩)) := by rw [ha]; exact qaf (e := (2, 96, .pointer (some ⟨w.heap.size + 1, 0, none⟩))) 2 rfl rfl (hon 2 (by kernel_rfl)) (bleP hsz rfl)
   replace ha := qa0.mk ha
   refine qar (w1 := w') (v := .pointer (some ⟨w.heap.size + 1, 2, none⟩)) (by rfl) rfl (by go_simp; try rfl) ?_
   exact hK_.out _ _ ⟨by rw [ha.out]; exact qac 3 hb_ rfl rfl rfl, hI, hB, hZ⟩
  refine qab ?_ ?_
  ·rintro b_ a w' ⟨ha, hI, hB, hZ⟩ hb_ hon hoff
   refine ⟨_, rfl, fun K hK_ => ?_⟩
   have e97 : a.tmps[97]? = some (.pointer (some ⟨w.heap.size + 1, 2, none⟩)) := by rw [ha]; exact qaf (e := (3, 97, .pointer (some ⟨w.heap.size + 1, 2, none⟩))) 3 rfl rfl (hon 3 (by kernel_rfl)) (bleP hsz rfl)
   replace ha := qa0.mk ha
   have hIc := hI
   obtain ⟨HG, hg⟩ := hIc
   have rc0 := qaz HG
   have rc1 := qb2 HG
   have rc2 := qb1 HG
   have rf0 := qa1 HG 0
   have rf1 := qa1 HG 1
   have rf2 := qa1 HG 2
   clear HG hg
   refine qar (w1 := w') (v := .int .i64 x) (by rfl) rfl (by go_simp; try rfl) ?_
   exact hK_.out _ _ ⟨by rw [ha.out]; exact qac 4 hb_ rfl rfl rfl, hI, hB, hZ⟩
  refine qab ?_ ?_
  ·rintro b_ a w' ⟨ha, hI, hB, hZ⟩ hb_ hon hoff
   refine ⟨_, rfl, fun K hK_ => ?_⟩
   have e4 : a.tmps[4]? = some (.pointer (some ⟨w.heap.size, 0, none⟩)) := by rw [ha]; exact (qb4 rfl).trans o4
   have e94 : a.tmps[94]? = some (.agg #[.int .u64 0, .int .u64 0, .int .u64 0, .int .u64 0]) := by rw [ha]; exact qaf (e := (0, 94, .agg #[.int .u64 0, .int .u64 0, .int .u64 0, .int .u64 0])) 0 rfl rfl (hon 0 (by kernel_rfl)) (bleP hsz rfl)
   replace ha := qa0.mk ha
   have zr := hZ
   have zf0 := qa1 zr 0
   have zf1 := qa1 zr 1
   have zf2 := qa1 zr 2
   have zf3 := qa1 zr 3
   have zc0 : w'.cell? ⟨w.heap.size, 0, none⟩ = some (Value.int .u64 0) := (qa2 zr 0).trans rfl
   have zc1 : w'.cell? ⟨w.heap.size, 1, none⟩ = some (Value.int .u64 0) := (qa2 zr 1).trans rfl
   have zc2 : w'.cell? ⟨w.heap.size, 2, none⟩ = some (Value.int .u64 0) := (qa2 zr 2).trans rfl
   have zc3 : w'.cell? ⟨w.heap.size, 3, none⟩ = some (Value.int .u64 0) := (qa2 zr 3).trans rfl
   clear zr
   refine qgg (w1 := ((((w'.setCell ⟨w.heap.size, 0, none⟩ (.int .u64 0)).setCell ⟨w.heap.size, 1, none⟩ (.int .u64 0)).setCell ⟨w.heap.size, 2, none⟩ (.int .u64 0)).setCell ⟨w.heap.size, 3, none⟩ (.int .u64 0))) (by rfl) rfl (by go_simp; try rfl) ?_
   exact hK_.out _ _ ⟨by rw [ha.out]; exact (qd1 rfl).symm, ((((hI.far (show w.heap.size + 1 ≠ w.heap.size by omega) _).far (show w.heap.size + 1 ≠ w.heap.size by omega) _).far (show w.heap.size + 1 ≠ w.heap.size by omega) _).far (show w.heap.size + 1 ≠ w.heap.size by omega) _), (qa9 (qa9 (qa9 (qa9 hB (Nat.le_refl _)) (Nat.le_refl _)) (Nat.le_refl _)) (Nat.le_refl _)), set4 hZ _ _ _ _⟩
  refine qab ?_ ?_
  ·rintro b_ a w' ⟨ha, hI, hB, hZ⟩ hb_ hon hoff
   refine ⟨_, rfl, fun K hK_ => ?_⟩
   replace ha := qa0.mk ha
   refine qar (w1 := w') (v := .int .i64 0) (by rfl) rfl (by go_simp; try rfl) ?_
   exact hK_.out _ _ ⟨by rw [ha.out]; exact qac 5 hb_ rfl rfl rfl, hI, hB, hZ⟩
  refine qab ?_ ?_
  ·rintro b_ a w' ⟨ha, hI, hB, hZ⟩ hb_ hon hoff
   refine ⟨_, rfl, fun K hK_ => ?_⟩
   have e98 : a.tmps[98]? = some (.int .i64 x) := by rw [ha]; exact qaf (e := (4, 98, .int .i64 x)) 4 rfl rfl (hon 4 (by kernel_rfl)) (bleP hsz rfl)
   replace ha := qa0.mk ha
   refine qar (w1 := w') (v := .int .i64 x) (by rfl) rfl (by go_simp; try rfl) ?_
   exact hK_.out _ _ ⟨by rw [ha.out]; exact qac 6 hb_ rfl rfl rfl, hI, hB, hZ⟩
  exact qd8
 ·rintro b_ a w' hall ⟨ha, hI, hB, hZ⟩
  have hb0_ := hall 0 (by kernel_rfl)
  have hb1_ := hall 1 (by kernel_rfl)
  have hb2_ := hall 2 (by kernel_rfl)
  have hb3_ := hall 3 (by kernel_rfl)
  have hb4_ := hall 4 (by kernel_rfl)
  have hb5_ := hall 5 (by kernel_rfl)
  have hb6_ := hall 6 (by kernel_rfl)
  have hb7_ := hall 7 (by kernel_rfl)
  have hq := HQ.out w' (hI) (hB) (hZ)
  unfold qds at hq
  subst ha
  simp only [qb0, hb0_, hb1_, hb2_, hb3_, hb4_, hb6_, hb7_, if_true] at hq ⊢
  exact hq
set_option maxHeartbeats 8000000 in
set_option maxRecDepth 100000 in
theorem parse_not (a0 : ByteArray) (a1 : Int) (r1 r2 r3 r4 r5 r6 : Int) (w : World) (hML : ML w) (h0 : 0 ≤ a1) (h1 : a1 < (a0.size : Int)) (hb : bt a0 a1 = 91) (j : Int) (hj : IntKind.i64.wrap (a1 + 1) = j) (j0 : Int) (hw2 : IntKind.i64.wrap (j + 1) = j0) (hjn : 0 ≤ j) (hjs : j < (a0.size : Int)) (hc : bt a0 j = 94) (h : qce a0 true (a0.size + 1) true 0 0 0 0 a0 j0 0 = some (r1, r2, r3, r4, r5, r6)) :
  Calls Try.prog 50 #[.string a0, .int .i64 a1] w fun e w' => e = .returned (.tuple #[.agg #[.int .u64 r1, .int .u64 r2, .int .u64 r3, .int .u64 r4], .int .i64 r5, .int .i64 r6]) ∧ Below w.heap.size w w' := by
 have HM := qa0.mk hML
 have HH := qa0.mk h
 clear hML h
 have c1 : decide (a1 < 0) = false := decide_eq_false (by omega)
 have c2 : decide ((a0.size : Int) ≤ a1) = false := decide_eq_false (by omega)
 have p0 : (0 ≤ a1) = True := eq_true (by omega)
 have q0 : (a1 < (a0.size : Int)) = True := eq_true (by omega)
 have hx0 := qbz a0 a1
 have c3 : (bt a0 a1 != 91) = false := bne_eq_false_iff_eq.2 hb
 have c4 : decide (j < (a0.size : Int)) = true := decide_eq_true hjs
 have p2 : (0 ≤ j) = True := eq_true hjn
 have q2 : (j < (a0.size : Int)) = True := eq_true hjs
 have hx2 := qbz a0 j
 have c5 : (bt a0 j == 94) = true := beq_iff_eq.2 hc
 clear hjn hjs hc
 clear h0 h1 hb
 go_enter Try.func50, Try.ntmps50
 go_wp2
 have HB2 : Below w.heap.size w ((w.alloc (.cells #[.int .u64 0, .int .u64 0, .int .u64 0, .int .u64 0] 24 (0, 0))).alloc (.cells #[.string a0, .int .i64 j0, .int .i64 0] 107 (0, 0))) := qa6 (qa6 (Below.refl _ _) _) _
 have HI2 : qak w ((w.alloc (.cells #[.int .u64 0, .int .u64 0, .int .u64 0, .int .u64 0] 24 (0, 0))).alloc (.cells #[.string a0, .int .i64 j0, .int .i64 0] 107 (0, 0))) (w.heap.size + 1) a0 j0 0 := by have := qak.new w (w.alloc (.cells #[.int .u64 0, .int .u64 0, .int .u64 0, .int .u64 0] 24 (0, 0))) a0 j0 0 (qa6 (Below.refl _ _) _); rwa [World.size_alloc] at this
 have HZ2 : ((w.alloc (.cells #[.int .u64 0, .int .u64 0, .int .u64 0, .int .u64 0] 24 (0, 0))).alloc (.cells #[.string a0, .int .i64 j0, .int .i64 0] 107 (0, 0))).heap[w.heap.size]? = some (.cells #[.int .u64 0, .int .u64 0, .int .u64 0, .int .u64 0] 24 (0, 0)) := qa3 (qat w _) _
 have HI3 := HI2
 have HB3 := HB2
 have HZ3 := HZ2
 have HI0 : qa0 (qak w (((w.alloc (.cells #[.int .u64 0, .int .u64 0, .int .u64 0, .int .u64 0] 24 (0, 0))).alloc (.cells #[.string a0, .int .i64 j0, .int .i64 0] 107 (0, 0))).alloc (.cells #[.int .u64 0, .int .u64 0, .int .u64 0, .int .u64 0] 24 (0, 0))) (w.heap.size + 1) a0 j0 0) := ⟨HI3.alloc _⟩
 have HB0 : qa0 (Below w.heap.size w (((w.alloc (.cells #[.int .u64 0, .int .u64 0, .int .u64 0, .int .u64 0] 24 (0, 0))).alloc (.cells #[.string a0, .int .i64 j0, .int .i64 0] 107 (0, 0))).alloc (.cells #[.int .u64 0, .int .u64 0, .int .u64 0, .int .u64 0] 24 (0, 0)))) := ⟨qa6 HB3 _⟩
 have HZ0 : qa0 ((((w.alloc (.cells #[.int .u64 0, .int .u64 0, .int .u64 0, .int .u64 0] 24 (0, 0))).alloc (.cells #[.string a0, .int .i64 j0, .int .i64 0] 107 (0, 0))).alloc (.cells #[.int .u64 0, .int .u64 0, .int .u64 0, .int .u64 0] 24 (0, 0))).heap[w.heap.size]? = some (.cells #[.int .u64 0, .int .u64 0, .int .u64 0, .int .u64 0] 24 (0, 0))) := ⟨qa3 HZ3 _⟩
 have HS0 : qa0 ((((w.alloc (.cells #[.int .u64 0, .int .u64 0, .int .u64 0, .int .u64 0] 24 (0, 0))).alloc (.cells #[.string a0, .int .i64 j0, .int .i64 0] 107 (0, 0))).alloc (.cells #[.int .u64 0, .int .u64 0, .int .u64 0, .int .u64 0] 24 (0, 0))).heap[w.heap.size + 2]? = some (.cells #[.int .u64 0, .int .u64 0, .int .u64 0, .int .u64 0] 24 (0, 0))) := ⟨by have hsz : ((w.alloc (.cells #[.int .u64 0, .int .u64 0, .int .u64 0, .int .u64 0] 24 (0, 0))).alloc (.cells #[.string a0, .int .i64 j0, .int .i64 0] 107 (0, 0))).heap.size = w.heap.size + 2 := (by first | (simp [World.size_alloc]; done) | (simp [World.setCell, World.size_alloc]; done)); rw [← hsz]; exact qat _ _⟩
 clear HI2 HB2 HZ2 HI3 HB3 HZ3
 go_loopg [10] (a0.size + 1) (fun gk v10 wr => ∃ (first : Bool) (t1 t2 t3 t4 : Int) (rs : ByteArray) (p e : Int), v10 = .bool first ∧ qa0 (qce a0 true gk first t1 t2 t3 t4 rs p e = some (r1, r2, r3, r4, r5, r6)) ∧ qa0 (wr.heap[w.heap.size]? = some (.cells #[.int .u64 0, .int .u64 0, .int .u64 0, .int .u64 0] 24 (0, 0))) ∧ qa0 (qak w wr (w.heap.size + 1) rs p e) ∧ qa0 (wr.heap[w.heap.size + 2]? = some (.cells #[.int .u64 t1, .int .u64 t2, .int .u64 t3, .int .u64 t4] 24 (0, 0))) ∧ qa0 (Below w.heap.size w wr))
 case atStart => exact ⟨true, 0, 0, 0, 0, a0, j0, 0, rfl, HH, HZ0, HI0, HS0, HB0⟩
 case round =>
  clear HH HZ0 HI0 HS0 HB0
  obtain ⟨first, t1, t2, t3, t4, rs, p, e, rfl, HE, HZ, HI, HS, HB⟩ := hrel
  cases gk with
  | zero => exact absurd HE.out (by rw [qce]; exact fun h => by cases h)
  | succ gk =>
   have hE := HE.out
   rw [qce] at hE
   clear HE
   have hIc := HI.out
   obtain ⟨HG, hg⟩ := hIc
   have rc0 := qaz HG
   have rc1 := qb2 HG
   have rc2 := qb1 HG
   have rf0 := qa1 HG 0
   have rf1 := qa1 HG 1
   have rf2 := qa1 HG 2
   clear HG hg
   have zr := HZ.out
   have zf0 := qa1 zr 0
   have zf1 := qa1 zr 1
   have zf2 := qa1 zr 2
   have zf3 := qa1 zr 3
   have zc0 : wr.cell? ⟨w.heap.size, 0, none⟩ = some (Value.int .u64 0) := (qa2 zr 0).trans rfl
   have zc1 : wr.cell? ⟨w.heap.size, 1, none⟩ = some (Value.int .u64 0) := (qa2 zr 1).trans rfl
   have zc2 : wr.cell? ⟨w.heap.size, 2, none⟩ = some (Value.int .u64 0) := (qa2 zr 2).trans rfl
   have zc3 : wr.cell? ⟨w.heap.size, 3, none⟩ = some (Value.int .u64 0) := (qa2 zr 3).trans rfl
   clear zr
   have sr := HS.out
   have sf0 := qa1 sr 0
   have sf1 := qa1 sr 1
   have sf2 := qa1 sr 2
   have sf3 := qa1 sr 3
   have sc0 : wr.cell? ⟨w.heap.size + 2, 0, none⟩ = some (Value.int .u64 t1) := (qa2 sr 0).trans rfl
   have sc1 : wr.cell? ⟨w.heap.size + 2, 1, none⟩ = some (Value.int .u64 t2) := (qa2 sr 1).trans rfl
   have sc2 : wr.cell? ⟨w.heap.size + 2, 2, none⟩ = some (Value.int .u64 t3) := (qa2 sr 2).trans rfl
   have sc3 : wr.cell? ⟨w.heap.size + 2, 3, none⟩ = some (Value.int .u64 t4) := (qa2 sr 3).trans rfl
   clear sr
   have hzl := qa0.mk (qam HS.out)
   have kl0 : w.heap.size < wr.heap.size := by have := hzl.out; omega
   have kl1 : w.heap.size + 1 < wr.heap.size := by have := hzl.out; omega
   have kl2 : w.heap.size + 2 < wr.heap.size := hzl.out
   by_cases ce : e ≠ 0
   ·rw [if_pos ce] at hE
    simp only [Option.some.injEq, Prod.mk.injEq] at hE
    obtain ⟨rfl, rfl, rfl, rfl, rfl, rfl⟩ := hE
    have ce1 : (e == 0) = false := beq_eq_false_iff_ne.2 ce
    clear ce
    go_wp2
    clear rc0 rf0 rc1 rf1 rc2 rf2 zc0 zf0 zc1 zf1 zc2 zf2 zc3 zf3 sc0 sf0 sc1 sf1 sc2 sf2 sc3 sf3
    refine qen (rs := rs) (p := p) (x := e) rfl rfl rfl (HI.out.drew) (qa8 HB.out) (qa5 HZ.out) ?_
    intro w5 hI hB hZ
    simp only [qds, qb0, if_true, Act.put, List.setIfInBounds_toArray, List.set_cons_zero, List.set_cons_succ]
    try go_wp2
    refine bodyPost_ret (qb3 (rs := [.cell 4 24, .tmp 5, .tmp 6]) rfl (by simp) (.cell w.heap.size _ _ (0, 0) _ rfl hZ Try.underlying24 rfl (by kernel_rfl) (.tmp (.tmp .nil)))) rfl ?_
    exact ⟨rfl, hB⟩
   rw [if_neg ce] at hE
   obtain rfl : e = 0 := by omega
   clear ce
   by_cases cp : (a0.size : Int) ≤ p
   ·rw [if_pos cp] at hE
    simp only [Option.some.injEq, Prod.mk.injEq] at hE
    obtain ⟨rfl, rfl, rfl, rfl, rfl, rfl⟩ := hE
    have cp1 : decide ((a0.size : Int) ≤ p) = true := decide_eq_true cp
    clear cp
    go_wp2
    clear rc0 rf0 rc1 rf1 rc2 rf2 zc0 zf0 zc1 zf1 zc2 zf2 zc3 zf3 sc0 sf0 sc1 sf1 sc2 sf2 sc3 sf3
    refine qen (rs := rs) (p := p) (x := 6) rfl rfl rfl ((HI.out.qdk 6).drew) (qa8 (qa9 HB.out (Nat.le_add_right _ _))) (qa5 ((Below.heap_setCell _ ⟨w.heap.size + 1, 2, none⟩ _ _ (by show w.heap.size ≠ w.heap.size + 1; omega)).trans HZ.out)) ?_
    intro w5 hI hB hZ
    simp only [qds, qb0, if_true, Act.put, List.setIfInBounds_toArray, List.set_cons_zero, List.set_cons_succ]
    try go_wp2
    refine bodyPost_ret (qb3 (rs := [.cell 4 24, .tmp 5, .tmp 6]) rfl (by simp) (.cell w.heap.size _ _ (0, 0) _ rfl hZ Try.underlying24 rfl (by kernel_rfl) (.tmp (.tmp .nil)))) rfl ?_
    exact ⟨rfl, hB⟩
   rw [if_neg cp] at hE
   have cp1 : decide ((a0.size : Int) ≤ p) = false := decide_eq_false cp
   by_cases cn : p < 0
   ·rw [if_pos cn] at hE; cases hE
   rw [if_neg cn] at hE
   have p1 : (0 ≤ p) = True := eq_true (by omega)
   have q1 : (p < (a0.size : Int)) = True := eq_true (by omega)
   have hx1 := qbz a0 p
   clear cp cn
   by_cases cb : bt a0 p = 93
   ·have cb1 : (bt a0 p == 93) = true := beq_iff_eq.2 cb
    cases first with
    | false =>
     rw [if_pos ⟨cb, rfl⟩] at hE
     clear cb
     obtain ⟨j1, hw1⟩ : ∃ j : Int, IntKind.i64.wrap (p + 1) = j := ⟨_, rfl⟩
     rw [hw1] at hE
     rw [if_pos rfl] at hE
     simp only [Option.some.injEq, Prod.mk.injEq] at hE
     obtain ⟨rfl, rfl, rfl, rfl, rfl, rfl⟩ := hE
     go_wp2_with (go_at_call 52; refine (qeb.calls t1 t2 t3 t4 _ _ _ _ _ rfl).mono ?_; rintro ee w5 ⟨rfl, hb5⟩; have HI5 := qa0.mk (HI.out.below hb5); have HZ5 := qa0.mk (qae HZ.out hb5); have HS5 := qa0.mk (qae HS.out hb5); have HB5 := qa0.mk (qca HB.out HB.out.size hb5); clear hb5 kl0 kl1 kl2; clear rc0 rf0 rc1 rf1 rc2 rf2 zc0 zf0 zc1 zf1 zc2 zf2 zc3 zf3 sc0 sf0 sc1 sf1 sc2 sf2 sc3 sf3; have hIc := HI5.out; obtain ⟨HG, hg⟩ := hIc; have rc0 := qaz HG; have rc1 := qb2 HG; have rc2 := qb1 HG; have rf0 := qa1 HG 0; have rf1 := qa1 HG 1; have rf2 := qa1 HG 2; clear HG hg; have zr := HZ5.out; have zf0 := qa1 zr 0; have zf1 := qa1 zr 1; have zf2 := qa1 zr 2; have zf3 := qa1 zr 3; have zc0 : w5.cell? ⟨w.heap.size, 0, none⟩ = some (Value.int .u64 0) := (qa2 zr 0).trans rfl; have zc1 : w5.cell? ⟨w.heap.size, 1, none⟩ = some (Value.int .u64 0) := (qa2 zr 1).trans rfl; have zc2 : w5.cell? ⟨w.heap.size, 2, none⟩ = some (Value.int .u64 0) := (qa2 zr 2).trans rfl; have zc3 : w5.cell? ⟨w.heap.size, 3, none⟩ = some (Value.int .u64 0) := (qa2 zr 3).trans rfl; clear zr; have sr := HS5.out; have sf0 := qa1 sr 0; have sf1 := qa1 sr 1; have sf2 := qa1 sr 2; have sf3 := qa1 sr 3; have sc0 : w5.cell? ⟨w.heap.size + 2, 0, none⟩ = some (Value.int .u64 t1) := (qa2 sr 0).trans rfl; have sc1 : w5.cell? ⟨w.heap.size + 2, 1, none⟩ = some (Value.int .u64 t2) := (qa2 sr 1).trans rfl; have sc2 : w5.cell? ⟨w.heap.size + 2, 2, none⟩ = some (Value.int .u64 t3) := (qa2 sr 2).trans rfl; have sc3 : w5.cell? ⟨w.heap.size + 2, 3, none⟩ = some (Value.int .u64 t4) := (qa2 sr 3).trans rfl; clear sr; have hzl5 := qa0.mk (qam HS5.out); have kl0 : w.heap.size < w5.heap.size := (by have := hzl5.out; omega); have kl1 : w.heap.size + 1 < w5.heap.size := (by have := hzl5.out; omega); have kl2 : w.heap.size + 2 < w5.heap.size := hzl5.out)
     have HW1 := qa0.mk hw1
     clear rc0 rf0 rc1 rf1 rc2 rf2 zc0 zf0 zc1 zf1 zc2 zf2 zc3 zf3 sc0 sf0 sc1 sf1 sc2 sf2 sc3 sf3
     refine qh6 (rs := rs) (p := p) (j1 := j1) (v1 := Go.bits .xor .u64 (-1) t1) (v2 := Go.bits .xor .u64 (-1) t2) (v3 := Go.bits .xor .u64 (-1) t3) (v4 := Go.bits .xor .u64 (-1) t4) rfl rfl rfl rfl HW1 (((((HI5.out.far (show w.heap.size + 1 ≠ w.heap.size + 2 by omega) _).far (show w.heap.size + 1 ≠ w.heap.size + 2 by omega) _).far (show w.heap.size + 1 ≠ w.heap.size + 2 by omega) _).far (show w.heap.size + 1 ≠ w.heap.size + 2 by omega) _).drew) (qa8 (qa9 (qa9 (qa9 (qa9 HB5.out (by show w.heap.size ≤ w.heap.size + 2; omega)) (by show w.heap.size ≤ w.heap.size + 2; omega)) (by show w.heap.size ≤ w.heap.size + 2; omega)) (by show w.heap.size ≤ w.heap.size + 2; omega))) (qa5 (set4 HS5.out _ _ _ _)) (qa5 ((Below.heap_setCell _ ⟨w.heap.size + 2, 3, none⟩ _ _ (by show w.heap.size ≠ w.heap.size + 2; omega)).trans ((Below.heap_setCell _ ⟨w.heap.size + 2, 2, none⟩ _ _ (by show w.heap.size ≠ w.heap.size + 2; omega)).trans ((Below.heap_setCell _ ⟨w.heap.size + 2, 1, none⟩ _ _ (by show w.heap.size ≠ w.heap.size + 2; omega)).trans ((Below.heap_setCell _ ⟨w.heap.size + 2, 0, none⟩ _ _ (by show w.heap.size ≠ w.heap.size + 2; omega)).trans HZ5.out))))) ?_
     intro w5 hI hB hZ
     simp only [qf3, qb0, if_true, Act.put, List.setIfInBounds_toArray, List.set_cons_zero, List.set_cons_succ]
     try go_wp2
     refine bodyPost_ret (qb3 (rs := [.cell 4 24, .tmp 5, .tmp 6]) rfl (by simp) (.cell w.heap.size _ _ (0, 0) _ rfl hZ Try.underlying24 rfl (by kernel_rfl) (.tmp (.tmp .nil)))) rfl ?_
     exact ⟨rfl, hB⟩
    | true =>
     rw [if_neg (fun h => by cases h.2)] at hE
     clear cb
     obtain ⟨⟨u1, u2, u3, u4, rs', p', e'⟩, hsp, hE⟩ := Option.bind_eq_some_iff.1 hE
     dsimp only at hE
     have HSP := qa0.mk hsp
     have HN := qa0.mk hE
     clear hsp hE
     go_wp2
     clear rc0 rf0 rc1 rf1 rc2 rf2 zc0 zf0 zc1 zf1 zc2 zf2 zc3 zf3 sc0 sf0 sc1 sf1 sc2 sf2 sc3 sf3
     refine qeo (rs := rs) (rs' := rs') (p := p) (p' := p') (e' := e') (t1 := t1) (t2 := t2) (t3 := t3) (t4 := t4) (u1 := u1) (u2 := u2) (u3 := u3) (u4 := u4) rfl rfl rfl HM HSP HI.out.drew (qa8 HB.out) (qa5 HS.out) (qa5 HZ.out) ?_
     intro w5 hB hZ hi hs
     simp only [qdt, qb0, if_true, Act.put, List.setIfInBounds_toArray, List.set_cons_zero, List.set_cons_succ]
     go_wp2
     go_roundg gk
     case rel => exact ⟨false, _, _, _, _, rs', p', e', rfl, HN, ⟨hZ⟩, ⟨hi⟩, ⟨hs⟩, ⟨hB⟩⟩
     case measure => omega
   ·have cb1 : (bt a0 p == 93) = false := beq_eq_false_iff_ne.2 cb
    rw [if_neg (fun h => cb h.1)] at hE
    clear cb
    obtain ⟨⟨u1, u2, u3, u4, rs', p', e'⟩, hsp, hE⟩ := Option.bind_eq_some_iff.1 hE
    dsimp only at hE
    have HSP := qa0.mk hsp
    have HN := qa0.mk hE
    clear hsp hE
    go_wp2
    clear rc0 rf0 rc1 rf1 rc2 rf2 zc0 zf0 zc1 zf1 zc2 zf2 zc3 zf3 sc0 sf0 sc1 sf1 sc2 sf2 sc3 sf3
    refine qeo (rs := rs) (rs' := rs') (p := p) (p' := p') (e' := e') (t1 := t1) (t2 := t2) (t3 := t3) (t4 := t4) (u1 := u1) (u2 := u2) (u3 := u3) (u4 := u4) rfl rfl rfl HM HSP HI.out.drew (qa8 HB.out) (qa5 HS.out) (qa5 HZ.out) ?_
    intro w5 hB hZ hi hs
    simp only [qdt, qb0, if_true, Act.put, List.setIfInBounds_toArray, List.set_cons_zero, List.set_cons_succ]
    go_wp2
    go_roundg gk
    case rel => exact ⟨false, _, _, _, _, rs', p', e', rfl, HN, ⟨hZ⟩, ⟨hi⟩, ⟨hs⟩, ⟨hB⟩⟩
    case measure => omega
set_option maxHeartbeats 8000000 in
set_option maxRecDepth 100000 in
theorem parse_plain (a0 : ByteArray) (a1 : Int) (r1 r2 r3 r4 r5 r6 : Int) (w : World) (hML : ML w) (h0 : 0 ≤ a1) (h1 : a1 < (a0.size : Int)) (hb : bt a0 a1 = 91) (j : Int) (hj : IntKind.i64.wrap (a1 + 1) = j) (j0 : Int) (hj0 : j = j0) (hjn : 0 ≤ j) (hjs : j < (a0.size : Int)) (hc : bt a0 j ≠ 94) (h : qce a0 false (a0.size + 1) true 0 0 0 0 a0 j0 0 = some (r1, r2, r3, r4, r5, r6)) :
  Calls Try.prog 50 #[.string a0, .int .i64 a1] w fun e w' => e = .returned (.tuple #[.agg #[.int .u64 r1, .int .u64 r2, .int .u64 r3, .int .u64 r4], .int .i64 r5, .int .i64 r6]) ∧ Below w.heap.size w w' := by
 have HM := qa0.mk hML
 have HH := qa0.mk h
 clear hML h
 have c1 : decide (a1 < 0) = false := decide_eq_false (by omega)
 have c2 : decide ((a0.size : Int) ≤ a1) = false := decide_eq_false (by omega)
 have p0 : (0 ≤ a1) = True := eq_true (by omega)
 have q0 : (a1 < (a0.size : Int)) = True := eq_true (by omega)
 have hx0 := qbz a0 a1
 have c3 : (bt a0 a1 != 91) = false := bne_eq_false_iff_eq.2 hb
 subst hj0
 have c4 : decide (j < (a0.size : Int)) = true := decide_eq_true hjs
 have p2 : (0 ≤ j) = True := eq_true hjn
 have q2 : (j < (a0.size : Int)) = True := eq_true hjs
 have hx2 := qbz a0 j
 have c5 : (bt a0 j == 94) = false := beq_eq_false_iff_ne.2 hc
 clear hjn hjs hc
 clear h0 h1 hb
 go_enter Try.func50, Try.ntmps50
 go_wp2
 have HB2 : Below w.heap.size w ((w.alloc (.cells #[.int .u64 0, .int .u64 0, .int .u64 0, .int .u64 0] 24 (0, 0))).alloc (.cells #[.string a0, .int .i64 j, .int .i64 0] 107 (0, 0))) := qa6 (qa6 (Below.refl _ _) _) _
 have HI2 : qak w ((w.alloc (.cells #[.int .u64 0, .int .u64 0, .int .u64 0, .int .u64 0] 24 (0, 0))).alloc (.cells #[.string a0, .int .i64 j, .int .i64 0] 107 (0, 0))) (w.heap.size + 1) a0 j 0 := by have := qak.new w (w.alloc (.cells #[.int .u64 0, .int .u64 0, .int .u64 0, .int .u64 0] 24 (0, 0))) a0 j 0 (qa6 (Below.refl _ _) _); rwa [World.size_alloc] at this
 have HZ2 : ((w.alloc (.cells #[.int .u64 0, .int .u64 0, .int .u64 0, .int .u64 0] 24 (0, 0))).alloc (.cells #[.string a0, .int .i64 j, .int .i64 0] 107 (0, 0))).heap[w.heap.size]? = some (.cells #[.int .u64 0, .int .u64 0, .int .u64 0, .int .u64 0] 24 (0, 0)) := qa3 (qat w _) _
 have HI3 := HI2
 have HB3 := HB2
 have HZ3 := HZ2
 have HI0 : qa0 (qak w (((w.alloc (.cells #[.int .u64 0, .int .u64 0, .int .u64 0, .int .u64 0] 24 (0, 0))).alloc (.cells #[.string a0, .int .i64 j, .int .i64 0] 107 (0, 0))).alloc (.cells #[.int .u64 0, .int .u64 0, .int .u64 0, .int .u64 0] 24 (0, 0))) (w.heap.size + 1) a0 j 0) := ⟨HI3.alloc _⟩
 have HB0 : qa0 (Below w.heap.size w (((w.alloc (.cells #[.int .u64 0, .int .u64 0, .int .u64 0, .int .u64 0] 24 (0, 0))).alloc (.cells #[.string a0, .int .i64 j, .int .i64 0] 107 (0, 0))).alloc (.cells #[.int .u64 0, .int .u64 0, .int .u64 0, .int .u64 0] 24 (0, 0)))) := ⟨qa6 HB3 _⟩
 have HZ0 : qa0 ((((w.alloc (.cells #[.int .u64 0, .int .u64 0, .int .u64 0, .int .u64 0] 24 (0, 0))).alloc (.cells #[.string a0, .int .i64 j, .int .i64 0] 107 (0, 0))).alloc (.cells #[.int .u64 0, .int .u64 0, .int .u64 0, .int .u64 0] 24 (0, 0))).heap[w.heap.size]? = some (.cells #[.int .u64 0, .int .u64 0, .int .u64 0, .int .u64 0] 24 (0, 0))) := ⟨qa3 HZ3 _⟩
 have HS0 : qa0 ((((w.alloc (.cells #[.int .u64 0, .int .u64 0, .int .u64 0, .int .u64 0] 24 (0, 0))).alloc (.cells #[.string a0, .int .i64 j, .int .i64 0] 107 (0, 0))).alloc (.cells #[.int .u64 0, .int .u64 0, .int .u64 0, .int .u64 0] 24 (0, 0))).heap[w.heap.size + 2]? = some (.cells #[.int .u64 0, .int .u64 0, .int .u64 0, .int .u64 0] 24 (0, 0))) := ⟨by have hsz : ((w.alloc (.cells #[.int .u64 0, .int .u64 0, .int .u64 0, .int .u64 0] 24 (0, 0))).alloc (.cells #[.string a0, .int .i64 j, .int .i64 0] 107 (0, 0))).heap.size = w.heap.size + 2 := (by first | (simp [World.size_alloc]; done) | (simp [World.setCell, World.size_alloc]; done)); rw [← hsz]; exact qat _ _⟩
 clear HI2 HB2 HZ2 HI3 HB3 HZ3
 go_loopg [10] (a0.size + 1) (fun gk v10 wr => ∃ (first : Bool) (t1 t2 t3 t4 : Int) (rs : ByteArray) (p e : Int), v10 = .bool first ∧ qa0 (qce a0 false gk first t1 t2 t3 t4 rs p e = some (r1, r2, r3, r4, r5, r6)) ∧ qa0 (wr.heap[w.heap.size]? = some (.cells #[.int .u64 0, .int .u64 0, .int .u64 0, .int .u64 0] 24 (0, 0))) ∧ qa0 (qak w wr (w.heap.size + 1) rs p e) ∧ qa0 (wr.heap[w.heap.size + 2]? = some (.cells #[.int .u64 t1, .int .u64 t2, .int .u64 t3, .int .u64 t4] 24 (0, 0))) ∧ qa0 (Below w.heap.size w wr))
 case atStart => exact ⟨true, 0, 0, 0, 0, a0, j, 0, rfl, HH, HZ0, HI0, HS0, HB0⟩
 case round =>
  clear HH HZ0 HI0 HS0 HB0
  obtain ⟨first, t1, t2, t3, t4, rs, p, e, rfl, HE, HZ, HI, HS, HB⟩ := hrel
  cases gk with
  | zero => exact absurd HE.out (by rw [qce]; exact fun h => by cases h)
  | succ gk =>
   have hE := HE.out
   rw [qce] at hE
   clear HE
   have hIc := HI.out
   obtain ⟨HG, hg⟩ := hIc
   have rc0 := qaz HG
   have rc1 := qb2 HG
   have rc2 := qb1 HG
   have rf0 := qa1 HG 0
   have rf1 := qa1 HG 1
   have rf2 := qa1 HG 2
   clear HG hg
   have zr := HZ.out
   have zf0 := qa1 zr 0
   have zf1 := qa1 zr 1
   have zf2 := qa1 zr 2
   have zf3 := qa1 zr 3
   have zc0 : wr.cell? ⟨w.heap.size, 0, none⟩ = some (Value.int .u64 0) := (qa2 zr 0).trans rfl
   have zc1 : wr.cell? ⟨w.heap.size, 1, none⟩ = some (Value.int .u64 0) := (qa2 zr 1).trans rfl
   have zc2 : wr.cell? ⟨w.heap.size, 2, none⟩ = some (Value.int .u64 0) := (qa2 zr 2).trans rfl
   have zc3 : wr.cell? ⟨w.heap.size, 3, none⟩ = some (Value.int .u64 0) := (qa2 zr 3).trans rfl
   clear zr
   have sr := HS.out
   have sf0 := qa1 sr 0
   have sf1 := qa1 sr 1
   have sf2 := qa1 sr 2
   have sf3 := qa1 sr 3
   have sc0 : wr.cell? ⟨w.heap.size + 2, 0, none⟩ = some (Value.int .u64 t1) := (qa2 sr 0).trans rfl
   have sc1 : wr.cell? ⟨w.heap.size + 2, 1, none⟩ = some (Value.int .u64 t2) := (qa2 sr 1).trans rfl
   have sc2 : wr.cell? ⟨w.heap.size + 2, 2, none⟩ = some (Value.int .u64 t3) := (qa2 sr 2).trans rfl
   have sc3 : wr.cell? ⟨w.heap.size + 2, 3, none⟩ = some (Value.int .u64 t4) := (qa2 sr 3).trans rfl
   clear sr
   have hzl := qa0.mk (qam HS.out)
   have kl0 : w.heap.size < wr.heap.size := by have := hzl.out; omega
   have kl1 : w.heap.size + 1 < wr.heap.size := by have := hzl.out; omega
   have kl2 : w.heap.size + 2 < wr.heap.size := hzl.out
   by_cases ce : e ≠ 0
   ·rw [if_pos ce] at hE
    simp only [Option.some.injEq, Prod.mk.injEq] at hE
    obtain ⟨rfl, rfl, rfl, rfl, rfl, rfl⟩ := hE
    have ce1 : (e == 0) = false := beq_eq_false_iff_ne.2 ce
    clear ce
    go_wp2
    clear rc0 rf0 rc1 rf1 rc2 rf2 zc0 zf0 zc1 zf1 zc2 zf2 zc3 zf3 sc0 sf0 sc1 sf1 sc2 sf2 sc3 sf3
    refine qen (rs := rs) (p := p) (x := e) rfl rfl rfl (HI.out.drew) (qa8 HB.out) (qa5 HZ.out) ?_
    intro w5 hI hB hZ
    simp only [qds, qb0, if_true, Act.put, List.setIfInBounds_toArray, List.set_cons_zero, List.set_cons_succ]
    try go_wp2
    refine bodyPost_ret (qb3 (rs := [.cell 4 24, .tmp 5, .tmp 6]) rfl (by simp) (.cell w.heap.size _ _ (0, 0) _ rfl hZ Try.underlying24 rfl (by kernel_rfl) (.tmp (.tmp .nil)))) rfl ?_
    exact ⟨rfl, hB⟩
   rw [if_neg ce] at hE
   obtain rfl : e = 0 := by omega
   clear ce
   by_cases cp : (a0.size : Int) ≤ p
   ·rw [if_pos cp] at hE
    simp only [Option.some.injEq, Prod.mk.injEq] at hE
    obtain ⟨rfl, rfl, rfl, rfl, rfl, rfl⟩ := hE
    have cp1 : decide ((a0.size : Int) ≤ p) = true := decide_eq_true cp
    clear cp
    go_wp2
    clear rc0 rf0 rc1 rf1 rc2 rf2 zc0 zf0 zc1 zf1 zc2 zf2 zc3 zf3 sc0 sf0 sc1 sf1 sc2 sf2 sc3 sf3
    refine qen (rs := rs) (p := p) (x := 6) rfl rfl rfl ((HI.out.qdk 6).drew) (qa8 (qa9 HB.out (Nat.le_add_right _ _))) (qa5 ((Below.heap_setCell _ ⟨w.heap.size + 1, 2, none⟩ _ _ (by show w.heap.size ≠ w.heap.size + 1; omega)).trans HZ.out)) ?_
    intro w5 hI hB hZ
    simp only [qds, qb0, if_true, Act.put, List.setIfInBounds_toArray, List.set_cons_zero, List.set_cons_succ]
    try go_wp2
    refine bodyPost_ret (qb3 (rs := [.cell 4 24, .tmp 5, .tmp 6]) rfl (by simp) (.cell w.heap.size _ _ (0, 0) _ rfl hZ Try.underlying24 rfl (by kernel_rfl) (.tmp (.tmp .nil)))) rfl ?_
    exact ⟨rfl, hB⟩
   rw [if_neg cp] at hE
   have cp1 : decide ((a0.size : Int) ≤ p) = false := decide_eq_false cp
   by_cases cn : p < 0
   ·rw [if_pos cn] at hE; cases hE
   rw [if_neg cn] at hE
   have p1 : (0 ≤ p) = True := eq_true (by omega)
   have q1 : (p < (a0.size : Int)) = True := eq_true (by omega)
   have hx1 := qbz a0 p
   clear cp cn
   by_cases cb : bt a0 p = 93
   ·have cb1 : (bt a0 p == 93) = true := beq_iff_eq.2 cb
    cases first with
    | false =>
     rw [if_pos ⟨cb, rfl⟩] at hE
     clear cb
     obtain ⟨j1, hw1⟩ : ∃ j : Int, IntKind.i64.wrap (p + 1) = j := ⟨_, rfl⟩
     rw [hw1] at hE
     rw [if_neg (fun h => by cases h)] at hE
     simp only [Option.some.injEq, Prod.mk.injEq] at hE
     obtain ⟨rfl, rfl, rfl, rfl, rfl, rfl⟩ := hE
     go_wp2
     have HW1 := qa0.mk hw1
     clear rc0 rf0 rc1 rf1 rc2 rf2 zc0 zf0 zc1 zf1 zc2 zf2 zc3 zf3 sc0 sf0 sc1 sf1 sc2 sf2 sc3 sf3
     refine qh6 (rs := rs) (p := p) (j1 := j1) (v1 := t1) (v2 := t2) (v3 := t3) (v4 := t4) rfl rfl rfl rfl HW1 (HI.out.drew) (qa8 HB.out) (qa5 HS.out) (qa5 HZ.out) ?_
     intro w5 hI hB hZ
     simp only [qf3, qb0, if_true, Act.put, List.setIfInBounds_toArray, List.set_cons_zero, List.set_cons_succ]
     try go_wp2
     refine bodyPost_ret (qb3 (rs := [.cell 4 24, .tmp 5, .tmp 6]) rfl (by simp) (.cell w.heap.size _ _ (0, 0) _ rfl hZ Try.underlying24 rfl (by kernel_rfl) (.tmp (.tmp .nil)))) rfl ?_
     exact ⟨rfl, hB⟩
    | true =>
     rw [if_neg (fun h => by cases h.2)] at hE
     clear cb
     obtain ⟨⟨u1, u2, u3, u4, rs', p', e'⟩, hsp, hE⟩ := Option.bind_eq_some_iff.1 hE
     dsimp only at hE
     have HSP := qa0.mk hsp
     have HN := qa0.mk hE
     clear hsp hE
     go_wp2
     clear rc0 rf0 rc1 rf1 rc2 rf2 zc0 zf0 zc1 zf1 zc2 zf2 zc3 zf3 sc0 sf0 sc1 sf1 sc2 sf2 sc3 sf3
     refine qeo (rs := rs) (rs' := rs') (p := p) (p' := p') (e' := e') (t1 := t1) (t2 := t2) (t3 := t3) (t4 := t4) (u1 := u1) (u2 := u2) (u3 := u3) (u4 := u4) rfl rfl rfl HM HSP HI.out.drew (qa8 HB.out) (qa5 HS.out) (qa5 HZ.out) ?_
     intro w5 hB hZ hi hs
     simp only [qdt, qb0, if_true, Act.put, List.setIfInBounds_toArray, List.set_cons_zero, List.set_cons_succ]
     go_wp2
     go_roundg gk
     case rel => exact ⟨false, _, _, _, _, rs', p', e', rfl, HN, ⟨hZ⟩, ⟨hi⟩, ⟨hs⟩, ⟨hB⟩⟩
     case measure => omega
   ·have cb1 : (bt a0 p == 93) = false := beq_eq_false_iff_ne.2 cb
    rw [if_neg (fun h => cb h.1)] at hE
    clear cb
    obtain ⟨⟨u1, u2, u3, u4, rs', p', e'⟩, hsp, hE⟩ := Option.bind_eq_some_iff.1 hE
    dsimp only at hE
    have HSP := qa0.mk hsp
    have HN := qa0.mk hE
    clear hsp hE
    go_wp2
    clear rc0 rf0 rc1 rf1 rc2 rf2 zc0 zf0 zc1 zf1 zc2 zf2 zc3 zf3 sc0 sf0 sc1 sf1 sc2 sf2 sc3 sf3
    refine qeo (rs := rs) (rs' := rs') (p := p) (p' := p') (e' := e') (t1 := t1) (t2 := t2) (t3 := t3) (t4 := t4) (u1 := u1) (u2 := u2) (u3 := u3) (u4 := u4) rfl rfl rfl HM HSP HI.out.drew (qa8 HB.out) (qa5 HS.out) (qa5 HZ.out) ?_
    intro w5 hB hZ hi hs
    simp only [qdt, qb0, if_true, Act.put, List.setIfInBounds_toArray, List.set_cons_zero, List.set_cons_succ]
    go_wp2
    go_roundg gk
    case rel => exact ⟨false, _, _, _, _, rs', p', e', rfl, HN, ⟨hZ⟩, ⟨hi⟩, ⟨hs⟩, ⟨hB⟩⟩
    case measure => omega
set_option maxHeartbeats 8000000 in
set_option maxRecDepth 100000 in
theorem parse_end (a0 : ByteArray) (a1 : Int) (r1 r2 r3 r4 r5 r6 : Int) (w : World) (hML : ML w) (h0 : 0 ≤ a1) (h1 : a1 < (a0.size : Int)) (hb : bt a0 a1 = 91) (j : Int) (hj : IntKind.i64.wrap (a1 + 1) = j) (j0 : Int) (hj0 : j = j0) (hjs : ¬ j < (a0.size : Int)) (h : qce a0 false (a0.size + 1) true 0 0 0 0 a0 j0 0 = some (r1, r2, r3, r4, r5, r6)) :
  Calls Try.prog 50 #[.string a0, .int .i64 a1] w fun e w' => e = .returned (.tuple #[.agg #[.int .u64 r1, .int .u64 r2, .int .u64 r3, .int .u64 r4], .int .i64 r5, .int .i64 r6]) ∧ Below w.heap.size w w' := by
 have HM := qa0.mk hML
 have HH := qa0.mk h
 clear hML h
 have c1 : decide (a1 < 0) = false := decide_eq_false (by omega)
 have c2 : decide ((a0.size : Int) ≤ a1) = false := decide_eq_false (by omega)
 have p0 : (0 ≤ a1) = True := eq_true (by omega)
 have q0 : (a1 < (a0.size : Int)) = True := eq_true (by omega)
 have hx0 := qbz a0 a1
 have c3 : (bt a0 a1 != 91) = false := bne_eq_false_iff_eq.2 hb
 subst hj0
 have c4 : decide (j < (a0.size : Int)) = false := decide_eq_false hjs
 clear hjs
 clear h0 h1 hb
 go_enter Try.func50, Try.ntmps50
 go_wp2
 have HB2 : Below w.heap.size w ((w.alloc (.cells #[.int .u64 0, .int .u64 0, .int .u64 0, .int .u64 0] 24 (0, 0))).alloc (.cells #[.string a0, .int .i64 j, .int .i64 0] 107 (0, 0))) := qa6 (qa6 (Below.refl _ _) _) _
 have HI2 : qak w ((w.alloc (.cells #[.int .u64 0, .int .u64 0, .int .u64 0, .int .u64 0] 24 (0, 0))).alloc (.cells #[.string a0, .int .i64 j, .int .i64 0] 107 (0, 0))) (w.heap.size + 1) a0 j 0 := by have := qak.new w (w.alloc (.cells #[.int .u64 0, .int .u64 0, .int .u64 0, .int .u64 0] 24 (0, 0))) a0 j 0 (qa6 (Below.refl _ _) _); rwa [World.size_alloc] at this
 have HZ2 : ((w.alloc (.cells #[.int .u64 0, .int .u64 0, .int .u64 0, .int .u64 0] 24 (0, 0))).alloc (.cells #[.string a0, .int .i64 j, .int .i64 0] 107 (0, 0))).heap[w.heap.size]? = some (.cells #[.int .u64 0, .int .u64 0, .int .u64 0, .int .u64 0] 24 (0, 0)) := qa3 (qat w _) _
 have HI3 := HI2
 have HB3 := HB2
 have HZ3 := HZ2
 have HI0 : qa0 (qak w (((w.alloc (.cells #[.int .u64 0, .int .u64 0, .int .u64 0, .int .u64 0] 24 (0, 0))).alloc (.cells #[.string a0, .int .i64 j, .int .i64 0] 107 (0, 0))).alloc (.cells #[.int .u64 0, .int .u64 0, .int .u64 0, .int .u64 0] 24 (0, 0))) (w.heap.size + 1) a0 j 0) := ⟨HI3.alloc _⟩
 have HB0 : qa0 (Below w.heap.size w (((w.alloc (.cells #[.int .u64 0, .int .u64 0, .int .u64 0, .int .u64 0] 24 (0, 0))).alloc (.cells #[.string a0, .int .i64 j, .int .i64 0] 107 (0, 0))).alloc (.cells #[.int .u64 0, .int .u64 0, .int .u64 0, .int .u64 0] 24 (0, 0)))) := ⟨qa6 HB3 _⟩
 have HZ0 : qa0 ((((w.alloc (.cells #[.int .u64 0, .int .u64 0, .int .u64 0, .int .u64 0] 24 (0, 0))).alloc (.cells #[.string a0, .int .i64 j, .int .i64 0] 107 (0, 0))).alloc (.cells #[.int .u64 0, .int .u64 0, .int .u64 0, .int .u64 0] 24 (0, 0))).heap[w.heap.size]? = some (.cells #[.int .u64 0, .int .u64 0, .int .u64 0, .int .u64 0] 24 (0, 0))) := ⟨qa3 HZ3 _⟩
 have HS0 : qa0 ((((w.alloc (.cells #[.int .u64 0, .int .u64 0, .int .u64 0, .int .u64 0] 24 (0, 0))).alloc (.cells #[.string a0, .int .i64 j, .int .i64 0] 107 (0, 0))).alloc (.cells #[.int .u64 0, .int .u64 0, .int .u64 0, .int .u64 0] 24 (0, 0))).heap[w.heap.size + 2]? = some (.cells #[.int .u64 0, .int .u64 0, .int .u64 0, .int .u64 0] 24 (0, 0))) := ⟨by have hsz : ((w.alloc (.cells #[.int .u64 0, .int .u64 0, .int .u64 0, .int .u64 0] 24 (0, 0))).alloc (.cells #[.string a0, .int .i64 j, .int .i64 0] 107 (0, 0))).heap.size = w.heap.size + 2 := (by first | (simp [World.size_alloc]; done) | (simp [World.setCell, World.size_alloc]; done)); rw [← hsz]; exact qat _ _⟩
 clear HI2 HB2 HZ2 HI3 HB3 HZ3
 go_loopg [10] (a0.size + 1) (fun gk v10 wr => ∃ (first : Bool) (t1 t2 t3 t4 : Int) (rs : ByteArray) (p e : Int), v10 = .bool first ∧ qa0 (qce a0 false gk first t1 t2 t3 t4 rs p e = some (r1, r2, r3, r4, r5, r6)) ∧ qa0 (wr.heap[w.heap.size]? = some (.cells #[.int .u64 0, .int .u64 0, .int .u64 0, .int .u64 0] 24 (0, 0))) ∧ qa0 (qak w wr (w.heap.size + 1) rs p e) ∧ qa0 (wr.heap[w.heap.size + 2]? = some (.cells #[.int .u64 t1, .int .u64 t2, .int .u64 t3, .int .u64 t4] 24 (0, 0))) ∧ qa0 (Below w.heap.size w wr))
 case atStart => exact ⟨true, 0, 0, 0, 0, a0, j, 0, rfl, HH, HZ0, HI0, HS0, HB0⟩
 case round =>
  clear HH HZ0 HI0 HS0 HB0
  obtain ⟨first, t1, t2, t3, t4, rs, p, e, rfl, HE, HZ, HI, HS, HB⟩ := hrel
  cases gk with
  | zero => exact absurd HE.out (by rw [qce]; exact fun h => by cases h)
  | succ gk =>
   have hE := HE.out
   rw [qce] at hE
   clear HE
   have hIc := HI.out
   obtain ⟨HG, hg⟩ := hIc
   have rc0 := qaz HG
   have rc1 := qb2 HG
   have rc2 := qb1 HG
   have rf0 := qa1 HG 0
   have rf1 := qa1 HG 1
   have rf2 := qa1 HG 2
   clear HG hg
   have zr := HZ.out
   have zf0 := qa1 zr 0
   have zf1 := qa1 zr 1
   have zf2 := qa1 zr 2
   have zf3 := qa1 zr 3
   have zc0 : wr.cell? ⟨w.heap.size, 0, none⟩ = some (Value.int .u64 0) := (qa2 zr 0).trans rfl
   have zc1 : wr.cell? ⟨w.heap.size, 1, none⟩ = some (Value.int .u64 0) := (qa2 zr 1).trans rfl
   have zc2 : wr.cell? ⟨w.heap.size, 2, none⟩ = some (Value.int .u64 0) := (qa2 zr 2).trans rfl
   have zc3 : wr.cell? ⟨w.heap.size, 3, none⟩ = some (Value.int .u64 0) := (qa2 zr 3).trans rfl
   clear zr
   have sr := HS.out
   have sf0 := qa1 sr 0
   have sf1 := qa1 sr 1
   have sf2 := qa1 sr 2
   have sf3 := qa1 sr 3
   have sc0 : wr.cell? ⟨w.heap.size + 2, 0, none⟩ = some (Value.int .u64 t1) := (qa2 sr 0).trans rfl
   have sc1 : wr.cell? ⟨w.heap.size + 2, 1, none⟩ = some (Value.int .u64 t2) := (qa2 sr 1).trans rfl
   have sc2 : wr.cell? ⟨w.heap.size + 2, 2, none⟩ = some (Value.int .u64 t3) := (qa2 sr 2).trans rfl
   have sc3 : wr.cell? ⟨w.heap.size + 2, 3, none⟩ = some (Value.int .u64 t4) := (qa2 sr 3).trans rfl
   clear sr
   have hzl := qa0.mk (qam HS.out)
   have kl0 : w.heap.size < wr.heap.size := by have := hzl.out; omega
   have kl1 : w.heap.size + 1 < wr.heap.size := by have := hzl.out; omega
   have kl2 : w.heap.size + 2 < wr.heap.size := hzl.out
   by_cases ce : e ≠ 0
   ·rw [if_pos ce] at hE
    simp only [Option.some.injEq, Prod.mk.injEq] at hE
    obtain ⟨rfl, rfl, rfl, rfl, rfl, rfl⟩ := hE
    have ce1 : (e == 0) = false := beq_eq_false_iff_ne.2 ce
    clear ce
    go_wp2
    clear rc0 rf0 rc1 rf1 rc2 rf2 zc0 zf0 zc1 zf1 zc2 zf2 zc3 zf3 sc0 sf0 sc1 sf1 sc2 sf2 sc3 sf3
    refine qen (rs := rs) (p := p) (x := e) rfl rfl rfl (HI.out.drew) (qa8 HB.out) (qa5 HZ.out) ?_
    intro w5 hI hB hZ
    simp only [qds, qb0, if_true, Act.put, List.setIfInBounds_toArray, List.set_cons_zero, List.set_cons_succ]
    try go_wp2
    refine bodyPost_ret (qb3 (rs := [.cell 4 24, .tmp 5, .tmp 6]) rfl (by simp) (.cell w.heap.size _ _ (0, 0) _ rfl hZ Try.underlying24 rfl (by kernel_rfl) (.tmp (.tmp .nil)))) rfl ?_
    exact ⟨rfl, hB⟩
   rw [if_neg ce] at hE
   obtain rfl : e = 0 := by omega
   clear ce
   by_cases cp : (a0.size : Int) ≤ p
   ·rw [if_pos cp] at hE
    simp only [Option.some.injEq, Prod.mk.injEq] at hE
    obtain ⟨rfl, rfl, rfl, rfl, rfl, rfl⟩ := hE
    have cp1 : decide ((a0.size : Int) ≤ p) = true := decide_eq_true cp
    clear cp
    go_wp2
    clear rc0 rf0 rc1 rf1 rc2 rf2 zc0 zf0 zc1 zf1 zc2 zf2 zc3 zf3 sc0 sf0 sc1 sf1 sc2 sf2 sc3 sf3
    refine qen (rs := rs) (p := p) (x := 6) rfl rfl rfl ((HI.out.qdk 6).drew) (qa8 (qa9 HB.out (Nat.le_add_right _ _))) (qa5 ((Below.heap_setCell _ ⟨w.heap.size + 1, 2, none⟩ _ _ (by show w.heap.size ≠ w.heap.size + 1; omega)).trans HZ.out)) ?_
    intro w5 hI hB hZ
    simp only [qds, qb0, if_true, Act.put, List.setIfInBounds_toArray, List.set_cons_zero, List.set_cons_succ]
    try go_wp2
    refine bodyPost_ret (qb3 (rs := [.cell 4 24, .tmp 5, .tmp 6]) rfl (by simp) (.cell w.heap.size _ _ (0, 0) _ rfl hZ Try.underlying24 rfl (by kernel_rfl) (.tmp (.tmp .nil)))) rfl ?_
    exact ⟨rfl, hB⟩
   rw [if_neg cp] at hE
   have cp1 : decide ((a0.size : Int) ≤ p) = false := decide_eq_false cp
   by_cases cn : p < 0
   ·rw [if_pos cn] at hE; cases hE
   rw [if_neg cn] at hE
   have p1 : (0 ≤ p) = True := eq_true (by omega)
   have q1 : (p < (a0.size : Int)) = True := eq_true (by omega)
   have hx1 := qbz a0 p
   clear cp cn
   by_cases cb : bt a0 p = 93
   ·have cb1 : (bt a0 p == 93) = true := beq_iff_eq.2 cb
    cases first with
    | false =>
     rw [if_pos ⟨cb, rfl⟩] at hE
     clear cb
     obtain ⟨j1, hw1⟩ : ∃ j : Int, IntKind.i64.wrap (p + 1) = j := ⟨_, rfl⟩
     rw [hw1] at hE
     rw [if_neg (fun h => by cases h)] at hE
     simp only [Option.some.injEq, Prod.mk.injEq] at hE
     obtain ⟨rfl, rfl, rfl, rfl, rfl, rfl⟩ := hE
     go_wp2
     have HW1 := qa0.mk hw1
     clear rc0 rf0 rc1 rf1 rc2 rf2 zc0 zf0 zc1 zf1 zc2 zf2 zc3 zf3 sc0 sf0 sc1 sf1 sc2 sf2 sc3 sf3
     refine qh6 (rs := rs) (p := p) (j1 := j1) (v1 := t1) (v2 := t2) (v3 := t3) (v4 := t4) rfl rfl rfl rfl HW1 (HI.out.drew) (qa8 HB.out) (qa5 HS.out) (qa5 HZ.out) ?_
     intro w5 hI hB hZ
     simp only [qf3, qb0, if_true, Act.put, List.setIfInBounds_toArray, List.set_cons_zero, List.set_cons_succ]
     try go_wp2
     refine bodyPost_ret (qb3 (rs := [.cell 4 24, .tmp 5, .tmp 6]) rfl (by simp) (.cell w.heap.size _ _ (0, 0) _ rfl hZ Try.underlying24 rfl (by kernel_rfl) (.tmp (.tmp .nil)))) rfl ?_
     exact ⟨rfl, hB⟩
    | true =>
     rw [if_neg (fun h => by cases h.2)] at hE
     clear cb
     obtain ⟨⟨u1, u2, u3, u4, rs', p', e'⟩, hsp, hE⟩ := Option.bind_eq_some_iff.1 hE
     dsimp only at hE
     have HSP := qa0.mk hsp
     have HN := qa0.mk hE
     clear hsp hE
     go_wp2
     clear rc0 rf0 rc1 rf1 rc2 rf2 zc0 zf0 zc1 zf1 zc2 zf2 zc3 zf3 sc0 sf0 sc1 sf1 sc2 sf2 sc3 sf3
     refine qeo (rs := rs) (rs' := rs') (p := p) (p' := p') (e' := e') (t1 := t1) (t2 := t2) (t3 := t3) (t4 := t4) (u1 := u1) (u2 := u2) (u3 := u3) (u4 := u4) rfl rfl rfl HM HSP HI.out.drew (qa8 HB.out) (qa5 HS.out) (qa5 HZ.out) ?_
     intro w5 hB hZ hi hs
     simp only [qdt, qb0, if_true, Act.put, List.setIfInBounds_toArray, List.set_cons_zero, List.set_cons_succ]
     go_wp2
     go_roundg gk
     case rel => exact ⟨false, _, _, _, _, rs', p', e', rfl, HN, ⟨hZ⟩, ⟨hi⟩, ⟨hs⟩, ⟨hB⟩⟩
     case measure => omega
   ·have cb1 : (bt a0 p == 93) = false := beq_eq_false_iff_ne.2 cb
    rw [if_neg (fun h => cb h.1)] at hE
    clear cb
    obtain ⟨⟨u1, u2, u3, u4, rs', p', e'⟩, hsp, hE⟩ := Option.bind_eq_some_iff.1 hE
    dsimp only at hE
    have HSP := qa0.mk hsp
    have HN := qa0.mk hE
    clear hsp hE
    go_wp2
    clear rc0 rf0 rc1 rf1 rc2 rf2 zc0 zf0 zc1 zf1 zc2 zf2 zc3 zf3 sc0 sf0 sc1 sf1 sc2 sf2 sc3 sf3
    refine qeo (rs := rs) (rs' := rs') (p := p) (p' := p') (e' := e') (t1 := t1) (t2 := t2) (t3 := t3) (t4 := t4) (u1 := u1) (u2 := u2) (u3 := u3) (u4 := u4) rfl rfl rfl HM HSP HI.out.drew (qa8 HB.out) (qa5 HS.out) (qa5 HZ.out) ?_
    intro w5 hB hZ hi hs
    simp only [qdt, qb0, if_true, Act.put, List.setIfInBounds_toArray, List.set_cons_zero, List.set_cons_succ]
    go_wp2
    go_roundg gk
    case rel => exact ⟨false, _, _, _, _, rs', p', e', rfl, HN, ⟨hZ⟩, ⟨hi⟩, ⟨hs⟩, ⟨hB⟩⟩
    case measure => omega
set_option maxHeartbeats 4000000 in
set_option maxRecDepth 100000 in
theorem parse_err (a0 : ByteArray) (a1 : Int) (w : World) (h : a1 < 0 ∨ (a0.size : Int) ≤ a1 ∨ bt a0 a1 ≠ 91) :
  Calls Try.prog 50 #[.string a0, .int .i64 a1] w fun e w' => e = .returned (.tuple #[.agg #[.int .u64 0, .int .u64 0, .int .u64 0, .int .u64 0], .int .i64 0, .int .i64 1]) ∧ Below w.heap.size w w' := by
 have HB := qa0.mk (Below.refl w.heap.size w)
 by_cases h0 : a1 < 0
 ·have c1 : decide (a1 < 0) = true := decide_eq_true h0
  clear h h0
  go_enter Try.func50, Try.ntmps50
  go_wp2
  refine bodyPost_ret (qb3 (rs := [.cell 4 24, .tmp 5, .tmp 6]) rfl (by simp) (.cell w.heap.size _ _ (0, 0) _ rfl (qat w _) Try.underlying24 rfl (by kernel_rfl) (.tmp (.tmp .nil)))) rfl ?_
  exact ⟨rfl, qa6 HB.out _⟩
 by_cases h1 : (a0.size : Int) ≤ a1
 ·have c1 : decide (a1 < 0) = false := decide_eq_false h0
  have c2 : decide ((a0.size : Int) ≤ a1) = true := decide_eq_true h1
  clear h h0 h1
  go_enter Try.func50, Try.ntmps50
  go_wp2
  refine bodyPost_ret (qb3 (rs := [.cell 4 24, .tmp 5, .tmp 6]) rfl (by simp) (.cell w.heap.size _ _ (0, 0) _ rfl (qat w _) Try.underlying24 rfl (by kernel_rfl) (.tmp (.tmp .nil)))) rfl ?_
  exact ⟨rfl, qa6 HB.out _⟩
 have hb : bt a0 a1 ≠ 91 := (h.resolve_left h0).resolve_left h1
 have c1 : decide (a1 < 0) = false := decide_eq_false h0
 have c2 : decide ((a0.size : Int) ≤ a1) = false := decide_eq_false h1
 have p0 : (0 ≤ a1) = True := eq_true (by omega)
 have q0 : (a1 < (a0.size : Int)) = True := eq_true (by omega)
 have hx0 := qbz a0 a1
 have c3 : (bt a0 a1 != 91) = true := bne_iff_ne.2 hb
 clear h h0 h1 hb
 go_enter Try.func50, Try.ntmps50
 go_wp2
 refine bodyPost_ret (qb3 (rs := [.cell 4 24, .tmp 5, .tmp 6]) rfl (by simp) (.cell w.heap.size _ _ (0, 0) _ rfl (qat w _) Try.underlying24 rfl (by kernel_rfl) (.tmp (.tmp .nil)))) rfl ?_
 exact ⟨rfl, qa6 HB.out _⟩
theorem qbu.calls (a0 : ByteArray) (a1 : Int) (r1 r2 r3 r4 r5 r6 : Int) (w : World) (hML : ML w) (h : qbu.f a0 a1 = some (r1, r2, r3, r4, r5, r6)) :
  Calls Try.prog 50 #[.string a0, .int .i64 a1] w fun e w' => e = .returned (.tuple #[.agg #[.int .u64 r1, .int .u64 r2, .int .u64 r3, .int .u64 r4], .int .i64 r5, .int .i64 r6]) ∧ Below w.heap.size w w' := by
 unfold qbu.f at h
 by_cases hc : a1 < 0 ∨ (a0.size : Int) ≤ a1 ∨ bt a0 a1 ≠ 91
 ·rw [if_pos hc] at h
  cases h
  exact parse_err a0 a1 w hc
 rw [if_neg hc] at h
 have h0 : 0 ≤ a1 := Int.not_lt.1 (fun q => hc (.inl q))
 have h1 : a1 < (a0.size : Int) := Int.not_le.1 (fun q => hc (.inr (.inl q)))
 have hb : bt a0 a1 = 91 := Decidable.byContradiction (fun q => hc (.inr (.inr q)))
 by_cases hp : IntKind.i64.wrap (a1 + 1) < 0 ∨ IntKind.i64.wrap (IntKind.i64.wrap (a1 + 1) + 1) < 0
 ·rw [if_pos hp] at h; cases h
 rw [if_neg hp] at h
 have hjn : 0 ≤ IntKind.i64.wrap (a1 + 1) := Int.not_lt.1 (fun q => hp (.inl q))
 by_cases hs : IntKind.i64.wrap (a1 + 1) < (a0.size : Int)
 ·by_cases h9 : bt a0 (IntKind.i64.wrap (a1 + 1)) = 94
  ·rw [if_pos ⟨hs, h9⟩] at h
   exact parse_not a0 a1 r1 r2 r3 r4 r5 r6 w hML h0 h1 hb _ rfl _ rfl hjn hs h9 h
  ·rw [if_neg (fun q => h9 q.2)] at h
   exact parse_plain a0 a1 r1 r2 r3 r4 r5 r6 w hML h0 h1 hb _ rfl _ rfl hjn hs h9 h
 ·rw [if_neg (fun q => hs q.1)] at h
  exact parse_end a0 a1 r1 r2 r3 r4 r5 r6 w hML h0 h1 hb _ rfl _ rfl hs h
end Go.Proofs.Ytcmipoicnonaeaa.F
end
