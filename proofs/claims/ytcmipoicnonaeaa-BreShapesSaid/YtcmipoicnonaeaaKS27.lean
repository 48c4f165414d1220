/- Texts of this claim, 27 of 29: PureSets, F29, F19, F70, F58, F69, F93, F80, PureSets2, BrePure3, F84, F89, F90, F85, F78, F79, F68, PureParse1, PureParse2, PureParse3, PureParse4, PureList1, PureList2. -/
import Derived.Laws.BitsAllLaws
import Derived.Lib.Zigzag
import Derived.KernelRfl
import Derived.Test.YtcmipoicnonaeaaKS4
import Derived.Test.YtcmipoicnonaeaaKS6
import Derived.Test.YtcmipoicnonaeaaKS7
import Derived.Test.YtcmipoicnonaeaaKS11
import Derived.Test.YtcmipoicnonaeaaKS12
import Derived.Test.YtcmipoicnonaeaaKS14
import Derived.Test.YtcmipoicnonaeaaKS24
section
namespace Go.Proofs.Ytcmipoicnonaeaa.F
open Go.RowKit Go.Proofs.YtcmipoicnonaeaaW.PrintWords
set_option linter.unusedVariables false
set_option linter.unusedSimpArgs false
def w64 (x : Int) : Prop := 0 ≤ x ∧ x < 18446744073709551616
abbrev S4 := Int × Int × Int × Int
def okS (s : S4) : Prop := w64 s.1 ∧ w64 s.2.1 ∧ w64 s.2.2.1 ∧ w64 s.2.2.2
def wrd (s : S4) (k : Nat) : Nat := if k = 0 then s.1.toNat else if k = 1 then s.2.1.toNat else if k = 2 then s.2.2.1.toNat else s.2.2.2.toNat
def has (s : S4) (b : Nat) : Bool := (wrd s (b / 64)).testBit (b % 64)
theorem wrd_lt {s : S4} (h : okS s) (k : Nat) : wrd s k < 2 ^ 64 := by
 obtain ⟨h0, h1, h2, h3⟩ := h
 unfold w64 at *
 unfold wrd
 split
 ·omega
 ·split
  ·omega
  ·split <;> omega
theorem qiz (m : Nat) : (2 : Int) ^ m = ((2 ^ m : Nat) : Int) := by simp
theorem hasBit_eq {s : S4} (h : okS s) {b : Nat} (hb : b < 256) : hasBit s.1 s.2.1 s.2.2.1 s.2.2.2 (b : Int) = has s b := by
 have hw : wordOf s.1 s.2.1 s.2.2.1 s.2.2.2 (b : Int) = (wrd s (b / 64) : Int) := by
  obtain ⟨h0, h1, h2, h3⟩ := h
  unfold w64 at *
  unfold wordOf wrd
  rcases (by omega : b / 64 = 0 ∨ b / 64 = 1 ∨ b / 64 = 2 ∨ b / 64 = 3) with e | e | e | e
  all_goals
   have e' : (b : Int) / 64 = ((b / 64 : Nat) : Int) := by omega
   rw [e', e]
   simp
   omega
 have hlt := wrd_lt h (b / 64)
 unfold hasBit
 rw [hw, show ((b : Int) % 64).toNat = b % 64 by omega, qiz]
 rw [show ((wrd s (b / 64) : Int) / ((2 ^ (b % 64) : Nat) : Int)) = ((wrd s (b / 64) / 2 ^ (b % 64) : Nat) : Int) by simp]
 have hq : wrd s (b / 64) / 2 ^ (b % 64) < 18446744073709551616 := Nat.lt_of_le_of_lt (Nat.div_le_self _ _) (by simpa using hlt)
 unfold has
 rw [Nat.testBit_eq_decide_div_mod_eq]
 obtain ⟨q, hqq⟩ : ∃ q, wrd s (b / 64) / 2 ^ (b % 64) = q := ⟨_, rfl⟩
 rw [hqq] at hq ⊢
 rw [Go.Lib.u64_and1 _ (by omega) (by omega)]
 by_cases hx : q % 2 = 1
 ·rw [decide_eq_true hx, show ((q : Int) % 2) = 1 by omega]; rfl
 ·rw [decide_eq_false hx, show ((q : Int) % 2) = 0 by omega]; rfl
def addS (s : S4) (b : Int) : S4 := (qcp s.1 0 b, qcp s.2.1 1 b, qcp s.2.2.1 2 b, qcp s.2.2.2 3 b)
theorem w64_pow {m : Nat} (h : m < 64) : w64 ((2 : Int) ^ m) := by
 have h1 : (2 : Nat) ^ m < 2 ^ 64 := Nat.pow_lt_pow_right (by decide) h
 have h2 : (2 : Nat) ^ m ≥ 0 := Nat.zero_le _
 rw [qiz]
 unfold w64
 omega
theorem qfr {x : Int} (hx : w64 x) (k b : Nat) (hb : b < 256) : w64 (qcp x (k : Int) (b : Int)) ∧ (qcp x (k : Int) (b : Int)).toNat = if b / 64 = k then x.toNat ||| 2 ^ (b % 64) else x.toNat := by
 unfold qcp
 by_cases h : b / 64 = k
 ·have h' : (b : Int) / 64 = (k : Int) := by omega
  rw [if_pos h', if_pos h]
  have hp := w64_pow (m := b % 64) (by omega)
  rw [show ((b : Int) % 64).toNat = b % 64 by omega, u64_or x _ hx.1 hx.2 hp.1 hp.2]
  have e : ((2 : Int) ^ (b % 64)).toNat = 2 ^ (b % 64) := by rw [qiz]; exact Int.toNat_natCast _
  rw [e]
  have hlt : x.toNat ||| 2 ^ (b % 64) < 2 ^ 64 := Nat.or_lt_two_pow (by have := hx; unfold w64 at this; omega) (Nat.pow_lt_pow_right (by decide) (by omega))
  refine ⟨?_, Int.toNat_natCast _⟩
  unfold w64
  omega
 ·rw [if_neg (by omega), if_neg h]
  exact ⟨hx, rfl⟩
theorem addS_ok {s : S4} (h : okS s) {b : Nat} (hb : b < 256) : okS (addS s b) :=
 ⟨(qfr h.1 0 b hb).1, (qfr h.2.1 1 b hb).1, (qfr h.2.2.1 2 b hb).1, (qfr h.2.2.2 3 b hb).1⟩
def qco : S4 := (0, 0, 0, 0)
theorem qe9 : okS qco := by simp [okS, qco, w64]
theorem has_zero (b : Nat) : has qco b = false := by
 unfold has wrd qco
 split
 ·simp
 ·split
  ·simp
  ·split <;> simp
def orS (s t : S4) : S4 := (Go.bits .or .u64 s.1 t.1, Go.bits .or .u64 s.2.1 t.2.1, Go.bits .or .u64 s.2.2.1 t.2.2.1, Go.bits .or .u64 s.2.2.2 t.2.2.2)
theorem qif {x y : Int} (hx : w64 x) (hy : w64 y) : w64 (Go.bits .or .u64 x y) ∧ (Go.bits .or .u64 x y).toNat = x.toNat ||| y.toNat := by
 rw [u64_or x y hx.1 hx.2 hy.1 hy.2]
 have hlt : x.toNat ||| y.toNat < 2 ^ 64 := Nat.or_lt_two_pow (by unfold w64 at hx; omega) (by unfold w64 at hy; omega)
 refine ⟨?_, Int.toNat_natCast _⟩
 unfold w64
 omega
theorem orS_ok {s t : S4} (hs : okS s) (ht : okS t) : okS (orS s t) := ⟨(qif hs.1 ht.1).1, (qif hs.2.1 ht.2.1).1, (qif hs.2.2.1 ht.2.2.1).1, (qif hs.2.2.2 ht.2.2.2).1⟩
def notS (s : S4) : S4 := (Go.bits .xor .u64 (-1) s.1, Go.bits .xor .u64 (-1) s.2.1, Go.bits .xor .u64 (-1) s.2.2.1, Go.bits .xor .u64 (-1) s.2.2.2)
theorem qhj {x : Int} (hx : w64 x) : w64 (Go.bits .xor .u64 (-1) x) ∧ (Go.bits .xor .u64 (-1) x).toNat = 2 ^ 64 - (x.toNat + 1) := by
 have e : Go.bits .xor .u64 (-1) x = Go.bits .xor .u64 18446744073709551615 x := by
  unfold Go.bits
  rw [show BitVec.ofInt IntKind.u64.bits (-1) = BitVec.ofInt IntKind.u64.bits 18446744073709551615 by decide]
 rw [e, u64_xor _ x (by omega) (by omega) hx.1 hx.2]
 have h1 : x.toNat < 2 ^ 64 := by unfold w64 at hx; omega
 have h2 : (18446744073709551615 : Int).toNat ^^^ x.toNat = 2 ^ 64 - (x.toNat + 1) := by
  apply Nat.eq_of_testBit_eq
  intro i
  rw [Nat.testBit_two_pow_sub_succ h1, Nat.testBit_xor, show (18446744073709551615 : Int).toNat = 2 ^ 64 - 1 by decide, Nat.testBit_two_pow_sub_one]
  by_cases hi : i < 64
  ·simp [hi]
  ·rw [Nat.testBit_lt_two_pow (Nat.lt_of_lt_of_le h1 (Nat.pow_le_pow_right (by decide) (by omega)))]
   simp [hi]
 rw [h2]
 refine ⟨?_, Int.toNat_natCast _⟩
 unfold w64
 omega
theorem notS_ok {s : S4} (hs : okS s) : okS (notS s) := ⟨(qhj hs.1).1, (qhj hs.2.1).1, (qhj hs.2.2.1).1, (qhj hs.2.2.2).1⟩
def addL (s : S4) (l : List Nat) : S4 := l.foldl (fun (s : S4) (b : Nat) => addS s (b : Int)) s
theorem addL_ok {l : List Nat} (hl : ∀ b ∈ l, b < 256) : ∀ {s : S4}, okS s → okS (addL s l) := by
 induction l with
 | nil => intro s h; exact h
 | cons b l ih => intro s h; exact ih (fun c hc => hl c (List.mem_cons_of_mem _ hc)) (addS_ok h (hl b List.mem_cons_self))
end Go.Proofs.Ytcmipoicnonaeaa.F
end
section
namespace Go.Proofs.Ytcmipoicnonaeaa.F
open Go.RowKit Go.Proofs.YtcmipoicnonaeaaW.PrintWords Go.Proofs.YtcmipoicnonaeaaW.PrintLast Go.Proofs.YtcmipoicnonaeaaW.PrintMore
set_option linter.unusedVariables false
set_option linter.unusedSimpArgs false
def qdi.f (a0_0 a0_1 a0_2 a0_3 a1 : Int) : Option (Int × Int × Int × Int) := if 0 ≤ a1 ∧ a1 < 256 then some (qcp a0_0 0 a1, qcp a0_1 1 a1, qcp a0_2 2 a1, qcp a0_3 3 a1) else none
end Go.Proofs.Ytcmipoicnonaeaa.F
end
section
namespace Go.Proofs.Ytcmipoicnonaeaa.F
open Go.RowKit Go.Proofs.YtcmipoicnonaeaaW.PrintWords Go.Proofs.YtcmipoicnonaeaaW.PrintLast Go.Proofs.YtcmipoicnonaeaaW.PrintMore
attribute [local go_sem] qbs qbr qc7 qc0 qbh qbj qbp qbq
set_option linter.unusedVariables false
set_option linter.unusedSimpArgs false
def qbe.l0 : Nat → ByteArray → Int → Int → Int → Int → Int → Option (Int × Int × Int × Int)
 | 0, _, _, _, _, _, _ => none
 | k + 1, x0, x4, x319000, x319001, x319002, x319003 => if x4 < (x0.size : Int) then (if 0 ≤ x4 then ((qdi.f x319000 x319001 x319002 x319003 (wrap64 (bt x0 x4))).bind fun bt319 => (qbe.l0 k x0 (wrap64 (x4 + 1)) bt319.1 bt319.2.1 bt319.2.2.1 bt319.2.2.2)) else (none)) else (some (x319000, x319001, x319002, x319003))
def qbe.f (k : Nat) (a0 : ByteArray) : Option (Int × Int × Int × Int) := qbe.l0 k a0 0 0 0 0 0
theorem qbe.qcs : ∀ k, (∀ y0 y1 y2 y3 y4 y5, LeO (qbe.l0 k y0 y1 y2 y3 y4 y5) (qbe.l0 (k + 1) y0 y1 y2 y3 y4 y5))
 | 0 => fun _ _ _ _ _ _ r h => by simp [qbe.l0] at h
 | k + 1 => by
  have ih0 := qbe.qcs k
  ·intro y0 y1 y2 y3 y4 y5
   unfold qbe.l0
   repeat' first
   | (with_reducible exact ih0 _ _ _ _ _ _)
   | (with_reducible exact LeO.refl _)
   | (with_reducible exact LeO.none _)
   | (with_reducible refine LeO.ite ?_ ?_)
   | (with_reducible refine LeO.bind ?_ (fun _ => ?_))
   | exact ih0 _ _ _ _ _ _
   | exact LeO.none _
   | refine LeO.ite ?_ ?_
   | refine LeO.bind ?_ (fun _ => ?_)
theorem qbe.mono : ∀ a0 k, LeO (qbe.f k a0) (qbe.f (k + 1) a0) := by
 intro a0 k
 have ih0 := qbe.qcs k
 unfold qbe.f
 repeat' first
   | (with_reducible exact ih0 _ _ _ _ _ _)
   | (with_reducible exact LeO.refl _)
   | (with_reducible exact LeO.none _)
   | (with_reducible refine LeO.ite ?_ ?_)
   | (with_reducible refine LeO.bind ?_ (fun _ => ?_))
   | exact ih0 _ _ _ _ _ _
   | exact LeO.none _
   | refine LeO.ite ?_ ?_
   | refine LeO.bind ?_ (fun _ => ?_)
end Go.Proofs.Ytcmipoicnonaeaa.F
end
section
namespace Go.Proofs.Ytcmipoicnonaeaa.F
open Go.RowKit Go.Proofs.YtcmipoicnonaeaaW.PrintWords Go.Proofs.YtcmipoicnonaeaaW.PrintLast Go.Proofs.YtcmipoicnonaeaaW.PrintMore
set_option linter.unusedVariables false
set_option linter.unusedSimpArgs false
def qep.f (a0_0 a0_1 a0_2 a0_3 a1 : Int) : Option Bool := if 0 ≤ a1 ∧ a1 < 256 then some (hasBit a0_0 a0_1 a0_2 a0_3 a1) else none
end Go.Proofs.Ytcmipoicnonaeaa.F
end
section
namespace Go.Proofs.Ytcmipoicnonaeaa.F
open Go.RowKit Go.Proofs.YtcmipoicnonaeaaW.PrintWords Go.Proofs.YtcmipoicnonaeaaW.PrintLast Go.Proofs.YtcmipoicnonaeaaW.PrintMore
attribute [local go_sem] qbs qbr qc7 qc0 qbh qbj qbp qbq
set_option linter.unusedVariables false
set_option linter.unusedSimpArgs false
end Go.Proofs.Ytcmipoicnonaeaa.F
end
section
namespace Go.Proofs.Ytcmipoicnonaeaa.F
open Go.RowKit Go.Proofs.YtcmipoicnonaeaaW.PrintWords Go.Proofs.YtcmipoicnonaeaaW.PrintLast Go.Proofs.YtcmipoicnonaeaaW.PrintMore
attribute [local go_sem] qbs qbr qc7 qc0 qbh qbj qbp qbq
set_option linter.unusedVariables false
set_option linter.unusedSimpArgs false
end Go.Proofs.Ytcmipoicnonaeaa.F
end
section
namespace Go.Proofs.Ytcmipoicnonaeaa.F
open Go.RowKit Go.Proofs.YtcmipoicnonaeaaW.PrintWords Go.Proofs.YtcmipoicnonaeaaW.PrintLast Go.Proofs.YtcmipoicnonaeaaW.PrintMore
attribute [local go_sem] qbs qbr qc7 qc0 qbh qbj qbp qbq
set_option linter.unusedVariables false
set_option linter.unusedSimpArgs false
def qb5.l0 : Nat → List Int → Int → Int → Int → Int → Int → Option (List Int)
 | 0, _, _, _, _, _, _ => none
 | k + 1, x3, x4, x446000, x446001, x446002, x446003 => if x4 < 256 then ((qep.f x446000 x446001 x446002 x446003 x4).bind fun t446 => (if t446 = true then (if x3.length < 140737488355328 then (qb5.l0 k (x3 ++ [(x4) % 256]) (wrap64 (x4 + 1)) x446000 x446001 x446002 x446003) else (none)) else (qb5.l0 k x3 (wrap64 (x4 + 1)) x446000 x446001 x446002 x446003))) else (some x3)
def qb5.f (k : Nat) (a0_0 : Int) (a0_1 : Int) (a0_2 : Int) (a0_3 : Int) : Option (List Int) := qb5.l0 k ([] : List Int) 0 a0_0 a0_1 a0_2 a0_3
theorem qb5.qcs : ∀ k, (∀ y0 y1 y2 y3 y4 y5, LeO (qb5.l0 k y0 y1 y2 y3 y4 y5) (qb5.l0 (k + 1) y0 y1 y2 y3 y4 y5))
 | 0 => fun _ _ _ _ _ _ r h => by simp [qb5.l0] at h
 | k + 1 => by
  have ih0 := qb5.qcs k
  ·intro y0 y1 y2 y3 y4 y5
   unfold qb5.l0
   repeat' first
   | (with_reducible exact ih0 _ _ _ _ _ _)
   | (with_reducible exact LeO.refl _)
   | (with_reducible exact LeO.none _)
   | (with_reducible refine LeO.ite ?_ ?_)
   | (with_reducible refine LeO.bind ?_ (fun _ => ?_))
   | exact ih0 _ _ _ _ _ _
   | exact LeO.none _
   | refine LeO.ite ?_ ?_
   | refine LeO.bind ?_ (fun _ => ?_)
theorem qb5.mono : ∀ a0 a1 a2 a3 k, LeO (qb5.f k a0 a1 a2 a3) (qb5.f (k + 1) a0 a1 a2 a3) := by
 intro a0 a1 a2 a3 k
 have ih0 := qb5.qcs k
 unfold qb5.f
 repeat' first
   | (with_reducible exact ih0 _ _ _ _ _ _)
   | (with_reducible exact LeO.refl _)
   | (with_reducible exact LeO.none _)
   | (with_reducible refine LeO.ite ?_ ?_)
   | (with_reducible refine LeO.bind ?_ (fun _ => ?_))
   | exact ih0 _ _ _ _ _ _
   | exact LeO.none _
   | refine LeO.ite ?_ ?_
   | refine LeO.bind ?_ (fun _ => ?_)
end Go.Proofs.Ytcmipoicnonaeaa.F
end
section
namespace Go.Proofs.Ytcmipoicnonaeaa.F
open Go.RowKit Go.Proofs.YtcmipoicnonaeaaW.PrintWords Go.Proofs.YtcmipoicnonaeaaW.PrintLast Go.Proofs.YtcmipoicnonaeaaW.PrintMore
attribute [local go_sem] qbs qbr qc7 qc0 qbh qbj qbp qbq
set_option linter.unusedVariables false
set_option linter.unusedSimpArgs false
def qba.l0 : Nat → Int → Int → Int → Int → Int → Int → Int → Option (Int × Int × Int × Int × Int)
 | 0, _, _, _, _, _, _, _ => none
 | k + 1, x0, x1, x7, x441000, x441001, x441002, x441003 => if x7 < 256 then (if x7 ≥ (wrap64 (x0)) then (if x7 ≤ (wrap64 (x1)) then ((qdi.f x441000 x441001 x441002 x441003 x7).bind fun bt441 => (qba.l0 k x0 x1 (wrap64 (x7 + 1)) bt441.1 bt441.2.1 bt441.2.2.1 bt441.2.2.2)) else (qba.l0 k x0 x1 (wrap64 (x7 + 1)) x441000 x441001 x441002 x441003)) else (qba.l0 k x0 x1 (wrap64 (x7 + 1)) x441000 x441001 x441002 x441003)) else (some (x441000, x441001, x441002, x441003, 0))
def qba.f (k : Nat) (a0 : Int) (a1 : Int) : Option (Int × Int × Int × Int × Int) := if a1 < a0 then (some (0, 0, 0, 0, 7)) else (qba.l0 k a0 a1 0 0 0 0 0)
theorem qba.qcs : ∀ k, (∀ y0 y1 y2 y3 y4 y5 y6, LeO (qba.l0 k y0 y1 y2 y3 y4 y5 y6) (qba.l0 (k + 1) y0 y1 y2 y3 y4 y5 y6))
 | 0 => fun _ _ _ _ _ _ _ r h => by simp [qba.l0] at h
 | k + 1 => by
  have ih0 := qba.qcs k
  ·intro y0 y1 y2 y3 y4 y5 y6
   unfold qba.l0
   repeat' first
   | (with_reducible exact ih0 _ _ _ _ _ _ _)
   | (with_reducible exact LeO.refl _)
   | (with_reducible exact LeO.none _)
   | (with_reducible refine LeO.ite ?_ ?_)
   | (with_reducible refine LeO.bind ?_ (fun _ => ?_))
   | exact ih0 _ _ _ _ _ _ _
   | exact LeO.none _
   | refine LeO.ite ?_ ?_
   | refine LeO.bind ?_ (fun _ => ?_)
theorem qba.mono : ∀ a0 a1 k, LeO (qba.f k a0 a1) (qba.f (k + 1) a0 a1) := by
 intro a0 a1 k
 have ih0 := qba.qcs k
 unfold qba.f
 repeat' first
   | (with_reducible exact ih0 _ _ _ _ _ _ _)
   | (with_reducible exact LeO.refl _)
   | (with_reducible exact LeO.none _)
   | (with_reducible refine LeO.ite ?_ ?_)
   | (with_reducible refine LeO.bind ?_ (fun _ => ?_))
   | exact ih0 _ _ _ _ _ _ _
   | exact LeO.none _
   | refine LeO.ite ?_ ?_
   | refine LeO.bind ?_ (fun _ => ?_)
end Go.Proofs.Ytcmipoicnonaeaa.F
end
section
namespace Go.Proofs.Ytcmipoicnonaeaa.F
open Go.RowKit Go.Proofs.YtcmipoicnonaeaaW.PrintWords
set_option linter.unusedVariables false
set_option linter.unusedSimpArgs false
theorem With_eq (s : S4) {b : Int} (h0 : 0 ≤ b) (h1 : b < 256) : qdi.f s.1 s.2.1 s.2.2.1 s.2.2.2 b = some (addS s b) := by
  unfold qdi.f
  rw [if_pos ⟨h0, h1⟩]
  rfl
theorem Has_eq {s : S4} (h : okS s) {b : Nat} (hb : b < 256) : qep.f s.1 s.2.1 s.2.2.1 s.2.2.2 (b : Int) = some (has s b) := by
  unfold qep.f
  rw [if_pos (by omega), hasBit_eq h hb]
theorem qdl {n : Nat} (h : n < 9223372036854775807) : wrap64 ((n : Int) + 1) = ((n + 1 : Nat) : Int) := by rw [qbt (by omega) (by omega)]; omega
theorem qfm {s : S4} (hs : okS s) : ∀ (n : Nat) (x : Nat) (l : List Int), x + n = 256 → l.length ≤ x → ∀ j, qb5.l0 (n + 1 + j) l (x : Int) s.1 s.2.1 s.2.2.1 s.2.2.2 = some (l ++ ((List.range' x n).filter (has s)).map (fun (b : Nat) => (b : Int)))
  | 0, x, l, h, _, j => by
    rw [show 0 + 1 + j = j + 1 by omega, qb5.l0, if_neg (by omega)]
    simp
  | n + 1, x, l, h, hl, j => by
    rw [show n + 1 + 1 + j = (n + 1 + j) + 1 by omega, qb5.l0, if_pos (by omega), Has_eq hs (by omega), Option.bind_some, qdl (by omega), List.range'_succ]
    cases hh : has s x with
    | true =>
      rw [if_pos rfl, if_pos (by omega), qfm hs n (x + 1) _ (by omega) (by simp; omega) j, List.filter_cons_of_pos hh]
      simp
      omega
    | false =>
      rw [if_neg (by decide), qfm hs n (x + 1) _ (by omega) (by omega) j, List.filter_cons_of_neg (by simp [hh])]
def memN (s : S4) : List Nat := (List.range' 0 256).filter (has s)
theorem Members_eq {s : S4} (hs : okS s) (j : Nat) : qb5.f (257 + j) s.1 s.2.1 s.2.2.1 s.2.2.2 = some ((memN s).map (fun (b : Nat) => (b : Int))) := by
  have h := qfm hs 256 0 [] rfl (by simp) j
  rw [show 256 + 1 + j = 257 + j by omega] at h
  exact h
theorem qih : ∀ (l : List UInt8) (s : S4), qff l s = addL s (l.map UInt8.toNat)
  | [], s => rfl
  | b :: l, s => qih l _
theorem bytes_lt (l : List UInt8) : ∀ b ∈ l.map UInt8.toNat, b < 256 := by
  intro b hb
  obtain ⟨c, _, rfl⟩ := List.mem_map.1 hb
  exact c.toNat_lt
def ofS (a : ByteArray) : S4 := addL qco (a.data.toList.map UInt8.toNat)
theorem bOf_eq {a : ByteArray} (h : a.size ≤ 9223372036854775807) : qcz.f a = some (ofS a) := by
  unfold qcz.f
  rw [if_pos h, qih]
  rfl
theorem Of_loop (a : ByteArray) (h : a.size < 9223372036854775807) : ∀ (n : Nat) (x : Nat) (t : S4), x + n = a.size → ∀ j, qbe.l0 (n + 1 + j) a (x : Int) t.1 t.2.1 t.2.2.1 t.2.2.2 = some (addL t ((a.data.toList.drop x).map UInt8.toNat))
  | 0, x, t, hx, j => by
    rw [show 0 + 1 + j = j + 1 by omega, qbe.l0, if_neg (by omega), List.drop_eq_nil_of_le (by simp; omega)]
    rfl
  | n + 1, x, t, hx, j => by
    have hb := qi9 a (x : Int)
    have hlt : x < a.size := by omega
    rw [show n + 1 + 1 + j = (n + 1 + j) + 1 by omega, qbe.l0, if_pos (by omega), if_pos (by omega), qbt (by omega) (by omega), With_eq t (by omega) (by omega), Option.bind_some, qdl (by omega), Of_loop a h n (x + 1) _ (by omega) j, qck hlt]
    have e : bt a (x : Int) = ((a[x].toNat : Nat) : Int) := (qbz a x (by simpa using hlt)).symm
    rw [e]
    rfl
theorem Of_eq {a : ByteArray} (h : a.size < 9223372036854775807) (j : Nat) : qbe.f (a.size + 1 + j) a = some (ofS a) := by
  have := Of_loop a h a.size 0 qco (by omega) j
  exact this
end Go.Proofs.Ytcmipoicnonaeaa.F
end
section
namespace Go.Proofs.Ytcmipoicnonaeaa.F
open Go.RowKit Go.Proofs.YtcmipoicnonaeaaW.PrintWords Go.Proofs.YtcmipoicnonaeaaW.PrintLast Go.Proofs.YtcmipoicnonaeaaW.PrintMore
set_option linter.unusedVariables false
set_option linter.unusedSimpArgs false
def qer (s : ByteArray) (i : Nat) : Bool := decide (i < s.size) && decide (48 ≤ bt s (i : Int)) && decide (bt s (i : Int) ≤ 57)
def numS (s : ByteArray) : Nat → Nat → Int → Int × Nat
 | 0, i, n => (n, i)
 | m + 1, i, n => if qer s i = true then numS s m (i + 1) (min (10 * n + (bt s (i : Int) - 48)) 256) else (n, i)
def numA (s : ByteArray) (i : Nat) : Int × Nat := (if (numS s (s.size + 1) i 0).2 = i then -1 else (numS s (s.size + 1) i 0).1, (numS s (s.size + 1) i 0).2)
theorem numS_ok (s : ByteArray) : ∀ (m i : Nat) (n : Int), 0 ≤ n → n ≤ 256 → 0 ≤ (numS s m i n).1 ∧ (numS s m i n).1 ≤ 256 ∧ i ≤ (numS s m i n).2 ∧ (i ≤ s.size → (numS s m i n).2 ≤ s.size)
 | 0, i, n, h0, h1 => ⟨h0, h1, Nat.le_refl _, id⟩
 | m + 1, i, n, h0, h1 => by
  rw [numS]
  by_cases c : qer s i = true
  ·rw [if_pos c]
   have hd := c
   unfold qer at hd
   simp only [Bool.and_eq_true, decide_eq_true_eq] at hd
   obtain ⟨⟨h2, h3⟩, h4⟩ := hd
   obtain ⟨a, b, d, e⟩ := numS_ok s m (i + 1) (min (10 * n + (bt s (i : Int) - 48)) 256) (by omega) (by omega)
   exact ⟨a, b, by omega, fun _ => e h2⟩
  ·rw [if_neg c]
   exact ⟨h0, h1, Nat.le_refl _, id⟩
theorem qhl (s : ByteArray) (i : Nat) (hi : i ≤ s.size) : -1 ≤ (numA s i).1 ∧ (numA s i).1 ≤ 256 ∧ i ≤ (numA s i).2 ∧ (numA s i).2 ≤ s.size := by
 obtain ⟨a, b, d, e⟩ := numS_ok s (s.size + 1) i 0 (Int.le_refl _) (by decide)
 unfold numA
 refine ⟨?_, ?_, d, e hi⟩
 all_goals
  simp only
  split <;> omega
theorem qhw (s : ByteArray) (hs : s.size ≤ 100000) : ∀ (m i f : Nat) (n : Int), 0 ≤ n → n ≤ 256 → s.size < m + i → i ≤ s.size → ∀ j, qb8.l0 (m + j) s (i : Int) n (f : Int) = some ((if (numS s m i n).2 = f then -1 else (numS s m i n).1), ((numS s m i n).2 : Int))
 | 0, i, f, n, _, _, h, hi, j => by omega
 | m + 1, i, f, n, h0, h1, h, hi, j => by
  rw [Nat.add_right_comm, qb8.l0, numS]
  by_cases hlt : i < s.size
  ·rw [if_pos (by omega), if_pos (by omega)]
   by_cases c1 : 48 ≤ bt s (i : Int)
   ·rw [if_pos c1]
    by_cases c2 : bt s (i : Int) ≤ 57
    ·have hd : qer s i = true := by
      unfold qer
      rw [decide_eq_true hlt, decide_eq_true c1, decide_eq_true c2]
      rfl
     have e1 : wrap64 ((i : Int) + 1) = ((i + 1 : Nat) : Int) := wrap_one (by omega)
     have e2 : wrap64 (wrap64 (10 * n) + (bt s (i : Int) - 48) % 256) = 10 * n + (bt s (i : Int) - 48) := by
      rw [qbt (x := 10 * n) (by omega) (by omega), Int.emod_eq_of_lt (by omega) (by omega), qbt (by omega) (by omega)]
     have e3 : mn (10 * n + (bt s (i : Int) - 48)) 256 = min (10 * n + (bt s (i : Int) - 48)) 256 := by
      unfold mn
      omega
     rw [if_pos c2, if_pos hd, e1, e2, e3]
     exact qhw s hs m (i + 1) f _ (by omega) (by omega) (by omega) (by omega) j
    ·have hd : ¬ qer s i = true := by
      unfold qer
      rw [decide_eq_false c2, Bool.and_false]
      decide
     rw [if_neg c2, if_neg hd]
     by_cases c : i = f
     ·rw [if_pos (by omega), if_pos c]
     ·rw [if_neg (by omega), if_neg c]
   ·have hd : ¬ qer s i = true := by
     unfold qer
     rw [decide_eq_false c1, Bool.and_false, Bool.false_and]
     decide
    rw [if_neg c1, if_neg hd]
    by_cases c : i = f
    ·rw [if_pos (by omega), if_pos c]
    ·rw [if_neg (by omega), if_neg c]
  ·have hd : ¬ qer s i = true := by
    unfold qer
    simp [hlt]
   rw [if_neg (by omega), if_neg hd]
   by_cases c : i = f
   ·rw [if_pos (by omega), if_pos c]
   ·rw [if_neg (by omega), if_neg c]
theorem number_eq (s : ByteArray) (hs : s.size ≤ 100000) {i : Nat} (hi : i ≤ s.size) (j : Nat) : qb8.f (s.size + 1 + j) s (i : Int) = some ((numA s i).1, ((numA s i).2 : Int)) := by
 unfold qb8.f numA
 exact qhw s hs (s.size + 1) i i 0 (Int.le_refl _) (by decide) (by omega) hi j
def qd3 (s : ByteArray) (i : Nat) (x y : Int) : Bool := decide (i + 2 ≤ s.size) && (bt s (i : Int) == x) && (bt s ((i + 1 : Nat) : Int) == y)
theorem two_ext {s : ByteArray} {i : Nat} (h : i + 2 ≤ s.size) (x y : UInt8) : ((s.extract i (i + 2)).toList = [x, y]) ↔ qd3 s i (x.toNat : Int) (y.toNat : Int) = true := by
 obtain ⟨b, c, l, hl⟩ := two_of h
 obtain ⟨_, h1, hl2⟩ := at_cons hl
 obtain ⟨_, h2, _⟩ := at_cons hl2
 rw [extract_toList, hl]
 unfold qd3
 rw [decide_eq_true h, h1, h2, show i + 2 - i = 2 by omega]
 simp only [List.take_succ_cons, List.take_zero, List.cons.injEq, and_true, Bool.true_and, Bool.and_eq_true, beq_iff_eq, byte_lit]
def itvA (s : ByteArray) (i : Nat) : Option (Int × Int × Nat) :=
 let r := numA s i
 let q := if r.2 < s.size ∧ bt s (r.2 : Int) = 44 then numA s (r.2 + 1) else r
 if r.1 < 0 ∨ 255 < r.1 ∨ 255 < q.1 ∨ (0 ≤ q.1 ∧ q.1 < r.1) then none else if qd3 s q.2 92 125 = true then some (r.1, q.1, q.2 + 2) else none
def itvR : Option (Int × Int × Nat) → Int × Int × Int × Bool
 | none => (0, 0, 0, false)
 | some (a, b, n) => (a, b, (n : Int), true)
theorem qh7 (s : ByteArray) (hs : s.size ≤ 100000) {a : Nat} (ha : a ≤ s.size) (lo hi : Int) (b : Bool) (k : Nat) : qal.j2 (k + 1) s (a : Int) lo hi b = some (itvR (if b = true then none else if qd3 s a 92 125 = true then some (lo, hi, a + 2) else none)) := by
 rw [qal.j2]
 by_cases hb : b = true
 ·rw [if_pos hb, if_pos hb]
  rfl
 ·rw [if_neg hb, if_neg hb, qgj (by omega)]
  by_cases h2 : a + 2 ≤ s.size
  ·have e := two_ext h2 92 125
   rw [show ((92 : UInt8).toNat : Int) = 92 from rfl, show ((125 : UInt8).toNat : Int) = 125 from rfl] at e
   rw [if_neg (by omega), if_pos (by omega), if_pos (by omega), if_pos (by omega), show ((a : Int)).toNat = a by omega, show (((a + 2 : Nat) : Int)).toNat = a + 2 by omega]
   by_cases c : qd3 s a 92 125 = true
   ·rw [if_pos (e.2 c), if_pos c]
    rfl
   ·rw [if_neg (fun h => c (e.1 h)), if_neg c]
    rfl
  ·have c : ¬ qd3 s a 92 125 = true := by
    unfold qd3
    simp [h2]
   rw [if_pos (by omega), if_neg c]
   rfl
theorem itv_j1 (s : ByteArray) (hs : s.size ≤ 100000) {a : Nat} (ha : a ≤ s.size) (lo hi : Int) (k : Nat) : qal.j1 (k + 2) s (a : Int) lo hi = some (itvR (if lo < 0 ∨ 255 < lo ∨ 255 < hi ∨ (0 ≤ hi ∧ hi < lo) then none else if qd3 s a 92 125 = true then some (lo, hi, a + 2) else none)) := by
 rw [qal.j1]
 by_cases c1 : lo < 0
 ·rw [if_pos c1, qh7 s hs ha, if_pos rfl, if_pos (.inl c1)]
 rw [if_neg c1]
 by_cases c2 : 255 < lo
 ·rw [if_pos c2, qh7 s hs ha, if_pos rfl, if_pos (.inr (.inl c2))]
 rw [if_neg (by omega)]
 by_cases c3 : 255 < hi
 ·rw [if_pos c3, qh7 s hs ha, if_pos rfl, if_pos (.inr (.inr (.inl c3)))]
 rw [if_neg (by omega)]
 by_cases c4 : 0 ≤ hi
 ·rw [if_pos c4, qh7 s hs ha]
  by_cases c5 : hi < lo
  ·rw [decide_eq_true c5, if_pos rfl, if_pos (.inr (.inr (.inr ⟨c4, c5⟩)))]
  ·have hn : ¬ (lo < 0 ∨ 255 < lo ∨ 255 < hi ∨ (0 ≤ hi ∧ hi < lo)) := by omega
   rw [decide_eq_false c5, if_neg hn, if_neg (by decide)]
 ·have hn : ¬ (lo < 0 ∨ 255 < lo ∨ 255 < hi ∨ (0 ≤ hi ∧ hi < lo)) := by omega
  rw [if_neg c4, qh7 s hs ha, if_neg hn, if_neg (by decide)]
theorem interval_eq (s : ByteArray) (hs : s.size ≤ 100000) {i : Nat} (hi : i ≤ s.size) (j : Nat) : qal.f (s.size + 4 + j) s (i : Int) = some (itvR (itvA s i)) := by
 obtain ⟨h1, h2, h3, h4⟩ := qhl s i hi
 unfold qal.f itvA
 rw [show s.size + 4 + j = s.size + 1 + (j + 3) by omega, number_eq s hs hi, Option.bind_some]
 simp only
 generalize numA s i = r at *
 by_cases c : r.2 < s.size
 ·rw [if_pos (by omega), if_pos (by omega), show s.size + 1 + (j + 3) = s.size + 1 + (j + 2) + 1 by omega, qal.j0]
  by_cases c2 : bt s (r.2 : Int) = 44
  ·obtain ⟨k1, k2, k3, k4⟩ := qhl s (r.2 + 1) c
   have hc : r.2 < s.size ∧ bt s (r.2 : Int) = 44 := ⟨c, c2⟩
   have hb : (bt s (r.2 : Int) == 44) = true := by rw [c2]; rfl
   rw [if_pos hc, hb, if_pos rfl, wrap_one (by omega), number_eq s hs c, Option.bind_some, show s.size + 1 + (j + 2) = s.size + 1 + j + 2 by omega]
   exact itv_j1 s hs k4 _ _ _
  ·have hc : ¬ (r.2 < s.size ∧ bt s (r.2 : Int) = 44) := fun h => c2 h.2
   have hb : (bt s (r.2 : Int) == 44) = false := by simpa using c2
   rw [if_neg hc, hb, if_neg (by decide), show s.size + 1 + (j + 2) = s.size + 1 + j + 2 by omega]
   exact itv_j1 s hs h4 _ _ _
 ·have hc : ¬ (r.2 < s.size ∧ bt s (r.2 : Int) = 44) := fun h => c h.1
  rw [if_neg (by omega), if_neg hc, show s.size + 1 + (j + 3) = s.size + j + 1 + 2 + 1 by omega, qal.j0, if_neg (by decide)]
  exact itv_j1 s hs h4 _ _ _
theorem itvA_ok {s : ByteArray} {i : Nat} (hi : i ≤ s.size) {lo hi_ : Int} {n : Nat} (h : itvA s i = some (lo, hi_, n)) : 0 ≤ lo ∧ lo ≤ 255 ∧ (hi_ = -1 ∨ lo ≤ hi_ ∧ hi_ ≤ 255) ∧ i + 2 ≤ n ∧ n ≤ s.size := by
 obtain ⟨h1, h2, h3, h4⟩ := qhl s i hi
 unfold itvA at h
 simp only at h
 generalize numA s i = r at *
 have hq : ∀ q : Int × Nat, q = (if r.2 < s.size ∧ bt s (r.2 : Int) = 44 then numA s (r.2 + 1) else r) → -1 ≤ q.1 ∧ i ≤ q.2 := by
  intro q e
  by_cases c : r.2 < s.size ∧ bt s (r.2 : Int) = 44
  ·rw [if_pos c] at e
   obtain ⟨k1, k2, k3, k4⟩ := qhl s (r.2 + 1) c.1
   rw [e]
   exact ⟨k1, by omega⟩
  ·rw [if_neg c] at e
   rw [e]
   exact ⟨h1, h3⟩
 obtain ⟨q1, q2⟩ := hq _ rfl
 generalize (if r.2 < s.size ∧ bt s (r.2 : Int) = 44 then numA s (r.2 + 1) else r) = q at *
 by_cases c : r.1 < 0 ∨ 255 < r.1 ∨ 255 < q.1 ∨ (0 ≤ q.1 ∧ q.1 < r.1)
 ·rw [if_pos c] at h
  cases h
 rw [if_neg c] at h
 by_cases c2 : qd3 s q.2 92 125 = true
 ·rw [if_pos c2] at h
  have e := Option.some.inj h
  have e1 := congrArg Prod.fst e
  have e2 := congrArg (fun x => x.2.1) e
  have e3 := congrArg (fun x => x.2.2) e
  simp only at e1 e2 e3
  have hz : q.2 + 2 ≤ s.size := by
   unfold qd3 at c2
   simp only [Bool.and_eq_true, decide_eq_true_eq] at c2
   exact c2.1.1
  omega
 ·rw [if_neg c2] at h
  cases h
def tk (k a : Int) (lo hi e : Int) : Tok := ⟨k, a, 0, 0, 0, 0, lo, hi, e⟩
def tkB (a : Int) (s : S4) : Tok := ⟨0, a, s.1, s.2.1, s.2.2.1, s.2.2.2, 0, 0, 0⟩
def oneS (c : Int) : S4 := ofS (strOfNums [c])
def qh1 (c : Int) : Bool := (decide (48 ≤ c) && decide (c ≤ 57)) || (decide (97 ≤ c) && decide (c ≤ 122)) || (decide (65 ≤ c) && decide (c ≤ 90))
def escA (s : ByteArray) (i : Nat) (b : Bool) : Tok × Nat :=
 let c := bt s ((i + 1 : Nat) : Int)
 if i + 1 = s.size then (tk 7 i 0 0 6, i)
 else if c = 40 then (tk 3 i 0 0 0, i + 2)
 else if c = 41 then (tk 4 i 0 0 0, i + 2)
 else if c = 123 then (match itvA s (i + 2) with
  | some (lo, hi, n) => if b = true then (tk 7 i 0 0 9, i) else (tk 5 i lo hi 0, n)
  | none => (tk 7 i 0 0 9, i))
 else if c = 125 then (tk 7 i 0 0 9, i)
 else if c = 110 then (tkB i (oneS 10), i + 2)
 else if 49 ≤ c ∧ c ≤ 57 then (tk 6 i (c - 48) 0 0, i + 2)
 else if qh1 c = true then (tk 7 i 0 0 12, i)
 else (tkB i (oneS c), i + 2)
def rdT (s : ByteArray) (i : Nat) (f b : Bool) : Tok × Nat :=
 let c := bt s (i : Int)
 if c = 92 then escA s i b
 else if c = 91 then (match qbu.f s (i : Int) with
  | some r => if r.2.2.2.2.2 = 0 then (tkB i (r.1, r.2.1, r.2.2.1, r.2.2.2.1), r.2.2.2.2.1.toNat) else (tk 7 i 0 0 r.2.2.2.2.2, i)
  | none => (tk 7 i 0 0 0, i))
 else if c = 46 then (tkB i (notS qco), i + 1)
 else if c = 42 ∧ b = false then (tk 5 i 0 (-1) 0, i + 1)
 else if c = 94 ∧ f = true then (tk 1 i 0 0 0, i + 1)
 else if c = 36 ∧ (i + 1 = s.size ∨ i + 2 < s.size ∧ qd3 s (i + 1) 92 41 = true) then (tk 2 i 0 0 0, i + 1)
 else (tkB i (oneS c), i + 1)
def expT (r : Tok × Nat) : Int × Int × Int × Int × Int × Int × Int × Int × Int × Int := (r.1.k, r.1.a, r.1.s0, r.1.s1, r.1.s2, r.1.s3, r.1.lo, r.1.hi, r.1.e, (r.2 : Int))
theorem strOf_size (c : Int) : (strOfNums [c]).size = 1 := by
 rw [qcn]
 rfl
theorem one_eq (a c : Int) : qci.f a c = some (0, a, (oneS c).1, (oneS c).2.1, (oneS c).2.2.1, (oneS c).2.2.2, 0, 0, 0) := by
 unfold qci.f
 rw [bOf_eq (by rw [strOf_size]; decide), Option.bind_some]
 rfl
theorem alnum_all : ((List.range 256).all fun n => qdr.f (n : Int) == some (qh1 (n : Int))) = true := by kernel_rfl
theorem alnum_eq {c : Int} (h0 : 0 ≤ c) (h1 : c < 256) : qdr.f c = some (qh1 c) := by
 have h := List.all_eq_true.1 alnum_all c.toNat (List.mem_range.2 (by omega))
 rw [show ((c.toNat : Nat) : Int) = c by omega] at h
 exact eq_of_beq h
theorem bt_ok_ (s : ByteArray) (p : Int) : 0 ≤ bt s p ∧ bt s p < 256 := by have := qi9 s p; omega
theorem esc_j0 (s : ByteArray) {i : Nat} (hi : i ≤ 100000) {c : Int} (h0 : 0 ≤ c) (h1 : c < 256) (b : Bool) (k : Nat) : qb6.j0 (k + 1) (i : Int) c b = some (expT (if b = true then (tk 6 i ((c - 48) % 256) 0 0, i + 2) else if qh1 c = true then (tk 7 i 0 0 12, i) else (tkB i (oneS c), i + 2))) := by
 rw [qb6.j0, alnum_eq h0 h1, Option.bind_some, qgj (by omega)]
 by_cases hb : b = true
 ·rw [if_pos hb, if_pos hb]
  rfl
 rw [if_neg hb, if_neg hb]
 by_cases ha : qh1 c = true
 ·rw [if_pos ha, if_pos ha]
  rfl
 ·rw [if_neg ha, if_neg ha, one_eq, Option.bind_some]
  rfl
theorem esc_eq (s : ByteArray) (hs : s.size ≤ 100000) {i : Nat} (hi : i < s.size) (b : Bool) (j : Nat) : qb6.f (s.size + 5 + j) s (i : Int) b = some (expT (escA s i b)) := by
 have hc := bt_ok_ s ((i + 1 : Nat) : Int)
 unfold qb6.f escA
 rw [wrap_one (by omega), qgj (by omega)]
 simp only
 generalize bt s ((i + 1 : Nat) : Int) = c at hc ⊢
 by_cases h1 : i + 1 = s.size
 ·rw [if_pos (by omega), if_pos h1]
  rfl
 rw [if_neg (by omega), if_neg h1, if_pos (by omega), if_pos (by omega)]
 by_cases c40 : c = 40
 ·rw [if_pos c40, if_pos c40]
  rfl
 rw [if_neg c40, if_neg c40]
 by_cases c41 : c = 41
 ·rw [if_pos c41, if_pos c41]
  rfl
 rw [if_neg c41, if_neg c41]
 by_cases c123 : c = 123
 ·rw [if_pos c123, if_pos c123, show s.size + 5 + j = s.size + 4 + (j + 1) by omega, interval_eq s hs (by omega), Option.bind_some]
  cases itvA s (i + 2) with
  | none => rfl
  | some r =>
   obtain ⟨lo, h, n⟩ := r
   show (if true = true then _ else _) = _
   rw [if_pos rfl]
   by_cases hb : b = true
   ·rw [if_pos hb]
    simp only
    rw [if_pos hb]
    rfl
   ·rw [if_neg hb]
    simp only
    rw [if_neg hb]
    rfl
 rw [if_neg c123, if_neg c123]
 by_cases c125 : c = 125
 ·rw [if_pos c125, if_pos c125]
  rfl
 rw [if_neg c125, if_neg c125]
 by_cases c110 : c = 110
 ·rw [if_pos c110, if_pos c110, one_eq, Option.bind_some]
  rfl
 rw [if_neg c110, if_neg c110, show s.size + 5 + j = s.size + 4 + j + 1 by omega]
 by_cases c49 : 49 ≤ c
 ·rw [if_pos c49, esc_j0 s (by omega) hc.1 hc.2]
  by_cases c57 : c ≤ 57
  ·rw [decide_eq_true c57, if_pos rfl, if_pos ⟨c49, c57⟩, Int.emod_eq_of_lt (by omega) (by omega)]
  ·have hn : ¬ (49 ≤ c ∧ c ≤ 57) := fun h => c57 h.2
   rw [decide_eq_false c57, if_neg hn, if_neg (by decide)]
 ·have hn : ¬ (49 ≤ c ∧ c ≤ 57) := fun h => c49 h.1
  rw [if_neg c49, esc_j0 s (by omega) hc.1 hc.2, if_neg hn, if_neg (by decide)]
end Go.Proofs.Ytcmipoicnonaeaa.F
end
section
namespace Go.Proofs.Ytcmipoicnonaeaa.F
open Go.RowKit Go.Proofs.YtcmipoicnonaeaaW.PrintWords Go.Proofs.YtcmipoicnonaeaaW.PrintLast Go.Proofs.YtcmipoicnonaeaaW.PrintMore
attribute [local go_sem] qbs qbr qc7 qc0 qbh qbj qbp qbq
set_option linter.unusedVariables false
set_option linter.unusedSimpArgs false
end Go.Proofs.Ytcmipoicnonaeaa.F
end
section
namespace Go.Proofs.Ytcmipoicnonaeaa.F
open Go.RowKit Go.Proofs.YtcmipoicnonaeaaW.PrintWords Go.Proofs.YtcmipoicnonaeaaW.PrintLast Go.Proofs.YtcmipoicnonaeaaW.PrintMore
attribute [local go_sem] qbs qbr qc7 qc0 qbh qbj qbp qbq
set_option linter.unusedVariables false
set_option linter.unusedSimpArgs false
def qek.f (a0 : ByteArray) : Option (ByteArray) := if a0.toList = ([100, 105, 103, 105, 116] : List UInt8) then (some (⟨#[48, 49, 50, 51, 52, 53, 54, 55, 56, 57]⟩ : ByteArray)) else (if a0.toList = ([117, 112, 112, 101, 114] : List UInt8) then (some (⟨#[65, 66, 67, 68, 69, 70, 71, 72, 73, 74, 75, 76, 77, 78, 79, 80, 81, 82, 83, 84, 85, 86, 87, 88, 89, 90]⟩ : ByteArray)) else (if a0.toList = ([108, 111, 119, 101, 114] : List UInt8) then (some (⟨#[97, 98, 99, 100, 101, 102, 103, 104, 105, 106, 107, 108, 109, 110, 111, 112, 113, 114, 115, 116, 117, 118, 119, 120, 121, 122]⟩ : ByteArray)) else (if a0.toList = ([97, 108, 112, 104, 97] : List UInt8) then (some (⟨#[65, 66, 67, 68, 69, 70, 71, 72, 73, 74, 75, 76, 77, 78, 79, 80, 81, 82, 83, 84, 85, 86, 87, 88, 89, 90, 97, 98, 99, 100, 101, 102, 103, 104, 105, 106, 107, 108, 109, 110, 111, 112, 113, 114, 115, 116, 117, 118, 119, 120, 121, 122]⟩ : ByteArray)) else (if a0.toList = ([97, 108, 110, 117, 109] : List UInt8) then (some (⟨#[65, 66, 67, 68, 69, 70, 71, 72, 73, 74, 75, 76, 77, 78, 79, 80, 81, 82, 83, 84, 85, 86, 87, 88, 89, 90, 97, 98, 99, 100, 101, 102, 103, 104, 105, 106, 107, 108, 109, 110, 111, 112, 113, 114, 115, 116, 117, 118, 119, 120, 121, 122, 48, 49, 50, 51, 52, 53, 54, 55, 56, 57]⟩ : ByteArray)) else (if a0.toList = ([120, 100, 105, 103, 105, 116] : List UInt8) then (some (⟨#[48, 49, 50, 51, 52, 53, 54, 55, 56, 57, 65, 66, 67, 68, 69, 70, 97, 98, 99, 100, 101, 102]⟩ : ByteArray)) else (if a0.toList = ([98, 108, 97, 110, 107] : List UInt8) then (some (⟨#[32, 9]⟩ : ByteArray)) else (if a0.toList = ([115, 112, 97, 99, 101] : List UInt8) then (some (⟨#[32, 9, 10, 11, 12, 13]⟩ : ByteArray)) else (if a0.toList = ([112, 117, 110, 99, 116] : List UInt8) then (some (⟨#[33, 34, 35, 36, 37, 38, 39, 40, 41, 42, 43, 44, 45, 46, 47, 58, 59, 60, 61, 62, 63, 64, 91, 92, 93, 94, 95, 96, 123, 124, 125, 126]⟩ : ByteArray)) else (if a0.toList = ([103, 114, 97, 112, 104] : List UInt8) then (some (⟨#[33, 34, 35, 36, 37, 38, 39, 40, 41, 42, 43, 44, 45, 46, 47, 58, 59, 60, 61, 62, 63, 64, 91, 92, 93, 94, 95, 96, 123, 124, 125, 126, 65, 66, 67, 68, 69, 70, 71, 72, 73, 74, 75, 76, 77, 78, 79, 80, 81, 82, 83, 84, 85, 86, 87, 88, 89, 90, 97, 98, 99, 100, 101, 102, 103, 104, 105, 106, 107, 108, 109, 110, 111, 112, 113, 114, 115, 116, 117, 118, 119, 120, 121, 122, 48, 49, 50, 51, 52, 53, 54, 55, 56, 57]⟩ : ByteArray)) else (if a0.toList = ([112, 114, 105, 110, 116] : List UInt8) then (some (⟨#[33, 34, 35, 36, 37, 38, 39, 40, 41, 42, 43, 44, 45, 46, 47, 58, 59, 60, 61, 62, 63, 64, 91, 92, 93, 94, 95, 96, 123, 124, 125, 126, 65, 66, 67, 68, 69, 70, 71, 72, 73, 74, 75, 76, 77, 78, 79, 80, 81, 82, 83, 84, 85, 86, 87, 88, 89, 90, 97, 98, 99, 100, 101, 102, 103, 104, 105, 106, 107, 108, 109, 110, 111, 112, 113, 114, 115, 116, 117, 118, 119, 120, 121, 122, 48, 49, 50, 51, 52, 53, 54, 55, 56, 57, 32]⟩ : ByteArray)) else (some (⟨#[]⟩ : ByteArray))))))))))))
end Go.Proofs.Ytcmipoicnonaeaa.F
end
section
namespace Go.Proofs.Ytcmipoicnonaeaa.F
open Go.RowKit Go.Proofs.YtcmipoicnonaeaaW.PrintWords Go.Proofs.YtcmipoicnonaeaaW.PrintLast Go.Proofs.YtcmipoicnonaeaaW.PrintMore
attribute [local go_sem] qbs qbr qc7 qc0 qbh qbj qbp qbq
set_option linter.unusedVariables false
set_option linter.unusedSimpArgs false
def qcm.f (k : Nat) (a0_0 : Int) (a0_1 : Int) (a0_2 : Int) (a0_3 : Int) : Option (Int) := (qb5.f k a0_0 a0_1 a0_2 a0_3).bind fun t451 => (some (t451.length : Int))
theorem qcm.mono : ∀ a0 a1 a2 a3 k, LeO (qcm.f k a0 a1 a2 a3) (qcm.f (k + 1) a0 a1 a2 a3) := by
  intro a0 a1 a2 a3 k
  unfold qcm.f
  repeat' first
      | (with_reducible exact qb5.mono _ _ _ _ _)
      | (with_reducible exact LeO.refl _)
      | (with_reducible exact LeO.none _)
      | (with_reducible refine LeO.ite ?_ ?_)
      | (with_reducible refine LeO.bind ?_ (fun _ => ?_))
      | exact qb5.mono _ _ _ _ _
      | exact LeO.none _
      | refine LeO.ite ?_ ?_
      | refine LeO.bind ?_ (fun _ => ?_)
end Go.Proofs.Ytcmipoicnonaeaa.F
end
section
namespace Go.Proofs.Ytcmipoicnonaeaa.F
open Go.RowKit Go.Proofs.YtcmipoicnonaeaaW.PrintWords Go.Proofs.YtcmipoicnonaeaaW.PrintLast Go.Proofs.YtcmipoicnonaeaaW.PrintMore
attribute [local go_sem] qbs qbr qc7 qc0 qbh qbj qbp qbq
set_option linter.unusedVariables false
set_option linter.unusedSimpArgs false
def qcf.f (k : Nat) (a0 : ByteArray) : Option (Int × Int × Int × Int × Int) := if a0.toList = ([99, 110, 116, 114, 108] : List UInt8) then ((qba.f k 0 31).bind fun bt455 => ((qdi.f bt455.1 bt455.2.1 bt455.2.2.1 bt455.2.2.2.1 127).bind fun bt461 => (some (bt461.1, bt461.2.1, bt461.2.2.1, bt461.2.2.2, 0)))) else ((qek.f a0).bind fun t465 => ((qbe.f k t465).bind fun bt466 => ((qcm.f k bt466.1 bt466.2.1 bt466.2.2.1 bt466.2.2.2).bind fun t471 => (if t471 = 0 then (some (bt466.1, bt466.2.1, bt466.2.2.1, bt466.2.2.2, 8)) else (some (bt466.1, bt466.2.1, bt466.2.2.1, bt466.2.2.2, 0))))))
theorem qcf.mono : ∀ a0 k, LeO (qcf.f k a0) (qcf.f (k + 1) a0) := by
 intro a0 k
 unfold qcf.f
 repeat' first
   | (with_reducible exact qcm.mono _ _ _ _ _)
   | (with_reducible exact qba.mono _ _ _)
   | (with_reducible exact qbe.mono _ _)
   | (with_reducible exact LeO.refl _)
   | (with_reducible exact LeO.none _)
   | (with_reducible refine LeO.ite ?_ ?_)
   | (with_reducible refine LeO.bind ?_ (fun _ => ?_))
   | exact qcm.mono _ _ _ _ _
   | exact qba.mono _ _ _
   | exact qbe.mono _ _
   | exact LeO.none _
   | refine LeO.ite ?_ ?_
   | refine LeO.bind ?_ (fun _ => ?_)
end Go.Proofs.Ytcmipoicnonaeaa.F
end
section
namespace Go.Proofs.Ytcmipoicnonaeaa.F
open Go.RowKit Go.Proofs.YtcmipoicnonaeaaW.PrintWords Go.Proofs.YtcmipoicnonaeaaW.PrintLast Go.Proofs.YtcmipoicnonaeaaW.PrintMore
attribute [local go_sem] qbs qbr qc7 qc0 qbh qbj qbp qbq
set_option linter.unusedVariables false
set_option linter.unusedSimpArgs false
end Go.Proofs.Ytcmipoicnonaeaa.F
end
section
namespace Go.Proofs.Ytcmipoicnonaeaa.F
open Go.RowKit Go.Proofs.YtcmipoicnonaeaaW.PrintWords Go.Proofs.YtcmipoicnonaeaaW.PrintLast Go.Proofs.YtcmipoicnonaeaaW.PrintMore
attribute [local go_sem] qbs qbr qc7 qc0 qbh qbj qbp qbq
set_option linter.unusedVariables false
set_option linter.unusedSimpArgs false
end Go.Proofs.Ytcmipoicnonaeaa.F
end
section
namespace Go.Proofs.Ytcmipoicnonaeaa.F
open Go.RowKit Go.Proofs.YtcmipoicnonaeaaW.PrintWords Go.Proofs.YtcmipoicnonaeaaW.PrintLast Go.Proofs.YtcmipoicnonaeaaW.PrintMore
attribute [local go_sem] qbs qbr qc7 qc0 qbh qbj qbp qbq
set_option linter.unusedVariables false
set_option linter.unusedSimpArgs false
end Go.Proofs.Ytcmipoicnonaeaa.F
end
section
namespace Go.Proofs.Ytcmipoicnonaeaa.F
open Go.RowKit Go.Proofs.YtcmipoicnonaeaaW.PrintWords
set_option linter.unusedVariables false
set_option linter.unusedSimpArgs false
theorem qdh {s : ByteArray} {i : Nat} (h : i < s.size) : bt s (i : Int) = (s[i].toNat : Int) := (qbz s i (by simpa using h)).symm
end Go.Proofs.Ytcmipoicnonaeaa.F
end
section
namespace Go.Proofs.Ytcmipoicnonaeaa.F
open Go.RowKit Go.Proofs.YtcmipoicnonaeaaW.PrintWords
set_option linter.unusedVariables false
set_option linter.unusedSimpArgs false
def qgm : List (List UInt8) := [[97, 108, 112, 104, 97], [100, 105, 103, 105, 116], [97, 108, 110, 117, 109], [117, 112, 112, 101, 114], [108, 111, 119, 101, 114], [115, 112, 97, 99, 101], [98, 108, 97, 110, 107], [103, 114, 97, 112, 104], [112, 114, 105, 110, 116], [112, 117, 110, 99, 116], [99, 110, 116, 114, 108], [120, 100, 105, 103, 105, 116]]
def okB (s : S4) : Bool := decide (0 ≤ s.1 ∧ s.1 < 18446744073709551616) && decide (0 ≤ s.2.1 ∧ s.2.1 < 18446744073709551616) && decide (0 ≤ s.2.2.1 ∧ s.2.2.1 < 18446744073709551616) && decide (0 ≤ s.2.2.2 ∧ s.2.2.2 < 18446744073709551616)
theorem okB_ok {s : S4} (h : okB s = true) : okS s := by
  simp only [okB, Bool.and_eq_true, decide_eq_true_eq] at h
  exact ⟨h.1.1.1, h.1.1.2, h.1.2, h.2⟩
def classOne (n : List UInt8) : Bool := match qcy.f ⟨n.toArray⟩, qcf.f 300 ⟨n.toArray⟩ with
  | some x, some y => x == y && x.2.2.2.2 == 0 && okB (x.1, x.2.1, x.2.2.1, x.2.2.2.1)
  | _, _ => false
theorem class_all : qgm.all classOne = true := by kernel_rfl
theorem qj1 {α : Type} {f : Nat → Option α} (hm : ∀ k, LeO (f k) (f (k + 1))) {k : Nat} {r : α} (h : f k = some r) (j : Nat) : f (k + j) = some r := by
  induction j with
  | zero => exact h
  | succ j ih => exact hm (k + j) r ih
theorem class_eq (n : ByteArray) : ∃ (s : S4) (e : Int), okS s ∧ qcy.f n = some (s.1, s.2.1, s.2.2.1, s.2.2.2, e) ∧ ∀ j, qcf.f (300 + j) n = some (s.1, s.2.1, s.2.2.1, s.2.2.2, e) := by
  have hn : n = ⟨n.toList.toArray⟩ := by rw [Lib.toList_data]
  by_cases hm : n.toList ∈ qgm
  · have h := List.all_eq_true.1 class_all _ hm
    unfold classOne at h
    rw [← hn] at h
    split at h
    · rename_i x y hx hy
      simp only [Bool.and_eq_true, beq_iff_eq] at h
      obtain ⟨⟨hxy, he⟩, ho⟩ := h
      subst hxy
      exact ⟨(x.1, x.2.1, x.2.2.1, x.2.2.2.1), x.2.2.2.2, okB_ok ho, hx, fun j => qj1 (qcf.mono n) hy j⟩
    · cases h
  · simp only [qgm, List.mem_cons, List.not_mem_nil, or_false, not_or] at hm
    obtain ⟨h1, h2, h3, h4, h5, h6, h7, h8, h9, h10, h11, h12⟩ := hm
    refine ⟨qco, 8, qe9, ?_, fun j => ?_⟩
    · unfold qcy.f
      rw [show 256 = 255 + 1 from rfl, qfn]
      have : qbm.f 20 n 0 = some (false, false) := by
        simp [qbm.f, qbm.j0, qbm.j1, h1, h2, h3, h4, h5, h6, h7, h8, h9, h10, h11, h12]
      rw [this]
      rfl
    · unfold qcf.f
      rw [if_neg h11]
      have ht : qek.f n = some ⟨#[]⟩ := by
        simp [qek.f, h1, h2, h3, h4, h5, h6, h7, h8, h9, h10, h12]
      rw [ht, Option.bind_some]
      have ho := Of_eq (a := ⟨#[]⟩) (by decide) (299 + j)
      rw [show (⟨#[]⟩ : ByteArray).size + 1 + (299 + j) = 300 + j by show 0 + 1 + (299 + j) = 300 + j; omega] at ho
      rw [ho, Option.bind_some]
      unfold qcm.f
      have hz : ofS ⟨#[]⟩ = qco := rfl
      have hm := Members_eq qe9 (43 + j)
      rw [show 257 + (43 + j) = 300 + j by omega] at hm
      have hmn : memN qco = [] := List.filter_eq_nil_iff.2 (fun c hc => by rw [has_zero]; decide)
      rw [hmn] at hm
      rw [hz, hm]
      rfl
def qf8 (s : ByteArray) (p : Nat) : Bool := decide (p < s.size) && (bt s (p : Int) == 45) && (decide (s.size ≤ p + 1) || (bt s ((p + 1 : Nat) : Int) != 93))
theorem dash_b (s : ByteArray) (hs : s.size < 4294967296) (p : Nat) (e : Int) : qay.f s (p : Int) e = some (qf8 s p, s, (p : Int), e) := by
  unfold qay.f qf8
  by_cases h : p < s.size
  · rw [if_pos (by omega), if_pos (by omega), qdl (by omega)]
    by_cases h1 : bt s (p : Int) = 45
    · rw [if_pos h1]
      by_cases h2 : s.size ≤ p + 1
      · rw [if_pos (by omega)]
        simp [h, h1, h2]
      · rw [if_neg (by omega), if_pos (by omega), if_pos (by omega)]
        simp [h, h1, h2]
    · rw [if_neg h1]
      simp [h1]
  · rw [if_neg (by omega)]
    simp [h]
theorem orSpan_eq : ∀ (n : Nat) (b : Nat) (s : S4), qe8 n (b : Int) s = addL s (List.range' b n)
  | 0, b, s => rfl
  | n + 1, b, s => by
    rw [qe8, List.range'_succ, show (b : Int) + 1 = ((b + 1 : Nat) : Int) by omega, orSpan_eq n (b + 1)]
    rfl
end Go.Proofs.Ytcmipoicnonaeaa.F
end
section
namespace Go.Proofs.Ytcmipoicnonaeaa.F
open Go.RowKit Go.Proofs.YtcmipoicnonaeaaW.PrintWords
set_option linter.unusedVariables false
set_option linter.unusedSimpArgs false
theorem ext_drop (s : ByteArray) (a : Nat) : (s.extract a s.size).data.toList = s.data.toList.drop a := by
 rw [Lib.extract_data, List.take_of_length_le (by simp)]
theorem u8_of {m : Int} (h : 0 ≤ m ∧ m < 256) : ((m.toNat.toUInt8).toNat : Int) = m := by
 simp only [Nat.toUInt8, UInt8.toNat_ofNat']
 omega
theorem nums2 {m : Int} (h : 0 ≤ m ∧ m < 256) : (strOfNums [m, 93]).data.toList = [m.toNat.toUInt8, 93] := by
 have := qfx [m.toNat.toUInt8, 93]
 rw [show bts [m.toNat.toUInt8, 93] = [m, 93] by simp only [bts, List.map_cons, List.map_nil, u8_of h]; rfl] at this
 exact this
theorem nums1 {m : Int} (h : 0 ≤ m ∧ m < 256) : (strOfNums [m]).data.toList = [m.toNat.toUInt8] := by
 have := qfx [m.toNat.toUInt8]
 rw [show bts [m.toNat.toUInt8] = [m] by simp only [bts, List.map_cons, List.map_nil, u8_of h]] at this
 exact this
theorem bt_ok (s : ByteArray) (p : Int) : 0 ≤ bt s p ∧ bt s p < 256 := by have := qi9 s p; omega
theorem mark_all : ((List.range 256).all fun n => decide (Lib.indexByte [46, 61, 58] n.toUInt8 < 0) == !(n == 46 || n == 61 || n == 58)) = true := by kernel_rfl
theorem mark_eq {m : Int} (h : 0 ≤ m ∧ m < 256) : decide (Lib.indexByte [46, 61, 58] m.toNat.toUInt8 < 0) = !(m == 46 || m == 61 || m == 58) := by
 have := beq_iff_eq.1 (List.all_eq_true.1 mark_all m.toNat (List.mem_range.2 (by omega)))
 rw [this]
 obtain ⟨n, rfl⟩ := Int.eq_ofNat_of_zero_le h.1
 have e : ∀ c : Nat, ((n : Int) == (c : Int)) = (n == c) := fun c => by
  rw [Bool.eq_iff_iff, beq_iff_eq, beq_iff_eq]; omega
 show (!(((n : Int)).toNat == 46 || ((n : Int)).toNat == 61 || ((n : Int)).toNat == 58)) = !(((n : Int) == ((46 : Nat) : Int)) || ((n : Int) == ((61 : Nat) : Int)) || ((n : Int) == ((58 : Nat) : Int)))
 rw [e 46, e 61, e 58]
 rfl
end Go.Proofs.Ytcmipoicnonaeaa.F
end
section
namespace Go.Proofs.Ytcmipoicnonaeaa.F
open Go.RowKit Go.Proofs.YtcmipoicnonaeaaW.PrintWords Go.Proofs.YtcmipoicnonaeaaW.PrintLast
set_option linter.unusedVariables false
set_option linter.unusedSimpArgs false
theorem dashAt_lt {s : ByteArray} {p : Nat} (h : qf8 s p = true) : p < s.size := by
 unfold qf8 at h
 simp only [Bool.and_eq_true, decide_eq_true_eq] at h
 exact h.1.1
end Go.Proofs.Ytcmipoicnonaeaa.F
end
section
namespace Go.Proofs.Ytcmipoicnonaeaa.F
open Go.RowKit Go.Proofs.YtcmipoicnonaeaaW.PrintWords Go.Proofs.YtcmipoicnonaeaaW.PrintLast
set_option linter.unusedVariables false
set_option linter.unusedSimpArgs false
def ofL (l : List UInt8) : S4 := addL qco (l.map UInt8.toNat)
theorem ofL_ok (l : List UInt8) : okS (ofL l) := addL_ok (bytes_lt _) qe9
theorem ofS_ofL (a : ByteArray) : ofS a = ofL a.data.toList := rfl
def qg1 (m : UInt8) : Bool := m == 46 || m == 61 || m == 58
def clsL (n : List UInt8) : Option S4 := match qcy.f ⟨n.toArray⟩ with
 | some u => if u.2.2.2.2 = 0 then some (u.1, u.2.1, u.2.2.1, u.2.2.2.1) else none
 | none => none
def namedL (m : UInt8) (tl : List UInt8) : Option (S4 × Nat × Bool × Nat) :=
 if Lib.index (tl.drop 1) [m, 93] < 0 then none
 else if m = 58 then (clsL (tl.take ((Lib.index (tl.drop 1) [m, 93]).toNat + 1))).map fun t => (t, 0, false, (Lib.index (tl.drop 1) [m, 93]).toNat + 5)
 else if (Lib.index (tl.drop 1) [m, 93]).toNat = 0 then some (ofL (tl.take 1), (tl.headD 0).toNat, m == 46, 5) else none
def qfs : List UInt8 → Option (S4 × Nat × Bool × Nat)
 | [] => none
 | [b] => some (ofL [b], b.toNat, true, 1)
 | b :: m :: tl => if b ≠ 91 ∨ qg1 m = false then some (ofL [b], b.toNat, true, 1) else namedL m tl
def qfp : List UInt8 → Bool
 | [] => false
 | [c] => c == 45
 | c :: d :: _ => c == 45 && d != 93
def qgp (l : List UInt8) : Option (S4 × Nat) :=
 match qfs l with
 | none => none
 | some (t, b, g, n) => if qfp (l.drop n) = false then some (t, n) else if g = false then none else
  match qfs (l.drop (n + 1)) with
  | none => none
  | some (u, c, g2, n2) => if g2 = false ∨ c < b ∨ qfp (l.drop (n + 1 + n2)) = true then none else some (addL qco (List.range' b (c - b + 1)), n + 1 + n2)
theorem u8_bt {s : ByteArray} {p : Nat} (h : p < s.size) : (bt s (p : Int)).toNat.toUInt8 = s[p] := by
 rw [qdh h]
 simp
theorem dash_L (s : ByteArray) (p : Nat) : qf8 s p = qfp (s.data.toList.drop p) := by
 unfold qf8
 by_cases h : p < s.size
 ·rw [qck h, qdh h]
  have e1 : ((s[p].toNat : Int) == 45) = (s[p] == 45) := by
   rw [Bool.eq_iff_iff, beq_iff_eq, beq_iff_eq]
   constructor
   ·intro e; apply UInt8.toNat_inj.1; show _ = 45; omega
   ·intro e; rw [e]; rfl
  by_cases h1 : p + 1 < s.size
  ·rw [qck h1, qdh h1, qfp, e1]
   have e2 : ((s[p + 1].toNat : Int) != 93) = (s[p + 1] != 93) := by
    rw [Bool.eq_iff_iff, bne_iff_ne, bne_iff_ne]
    constructor
    ·intro e q; rw [q] at e; exact e rfl
    ·intro e q; apply e; apply UInt8.toNat_inj.1; show _ = 93; omega
   rw [e2, decide_eq_true h, decide_eq_false (show ¬ s.size ≤ p + 1 by omega)]
   simp
  ·rw [List.drop_eq_nil_of_le (show s.data.toList.length ≤ p + 1 by rw [← qcn]; omega), qfp, e1, decide_eq_true h, decide_eq_true (show s.size ≤ p + 1 by omega)]
   simp
 ·rw [List.drop_eq_nil_of_le (by rw [← qcn]; omega), decide_eq_false h]
  rfl
theorem plain_L {s : ByteArray} (hs : s.size < 4294967281) {p : Nat} (hp : p < s.size) (hpl : qef s (p : Int) = true) :
  qan.f s (p : Int) 0 = some ((ofL [s[p]]).1, (ofL [s[p]]).2.1, (ofL [s[p]]).2.2.1, (ofL [s[p]]).2.2.2, (s[p].toNat : Int), true, s, ((p + 1 : Nat) : Int), 0) := by
 have hb0 := bt_ok s (p : Int)
 unfold qan.f
 rw [if_pos (by omega), if_pos hpl, bOf_eq (by rw [qcn, nums1 hb0]; simp), Option.bind_some, ofS_ofL, nums1 hb0, u8_bt hp, qdh hp]
 rfl
theorem cls_L (nm : ByteArray) : (∃ t : S4, okS t ∧ clsL nm.data.toList = some t ∧ qcy.f nm = some (t.1, t.2.1, t.2.2.1, t.2.2.2, 0)) ∨ (clsL nm.data.toList = none ∧ ∃ t1 t2 t3 t4 e : Int, e ≠ 0 ∧ qcy.f nm = some (t1, t2, t3, t4, e)) := by
 obtain ⟨t, e, hto, hcb, -⟩ := class_eq nm
 have hn : (⟨nm.data.toList.toArray⟩ : ByteArray) = nm := rfl
 by_cases he : e = 0
 ·subst he
  refine .inl ⟨t, hto, ?_, hcb⟩
  unfold clsL
  rw [hn, hcb]
  rfl
 ·refine .inr ⟨?_, _, _, _, _, e, he, hcb⟩
  unfold clsL
  rw [hn, hcb]
  exact if_neg he
theorem plain_flag {s : ByteArray} {p : Nat} (hp1 : p + 1 < s.size) : qef s (p : Int) = (s[p] != 91 || !qg1 s[p + 1]) := by
 have hm := bt_ok s ((p + 1 : Nat) : Int)
 unfold qef
 rw [decide_eq_false (show ¬ (s.size : Int) ≤ (p : Int) + 1 by omega), Bool.or_false, show (p : Int) + 1 = ((p + 1 : Nat) : Int) by omega, mark_eq hm, qdh hp1, qdh (show p < s.size by omega)]
 have e0 : ∀ (b c : UInt8), ((b.toNat : Int) == (c.toNat : Int)) = (b == c) := fun b c => by
  rw [Bool.eq_iff_iff, beq_iff_eq, beq_iff_eq]
  constructor
  ·intro e; apply UInt8.toNat_inj.1; omega
  ·intro e; rw [e]
 have e1 : ((s[p].toNat : Int) != 91) = (s[p] != 91) := by
  show (!((s[p].toNat : Int) == ((91 : UInt8).toNat : Int))) = !(s[p] == 91)
  rw [e0]
 rw [e1]
 congr 2
 show (((s[p + 1].toNat : Int) == ((46 : UInt8).toNat : Int)) || ((s[p + 1].toNat : Int) == ((61 : UInt8).toNat : Int)) || ((s[p + 1].toNat : Int) == ((58 : UInt8).toNat : Int))) = _
 rw [e0, e0, e0]
 rfl
set_option maxHeartbeats 1000000 in
theorem item_L (s : ByteArray) (hs : s.size < 4294967281) {p : Nat} (hp : p < s.size) :
  (qfs (s.data.toList.drop p) = none ∧ ∃ e : Int, e ≠ 0 ∧ ∃ t1 t2 t3 t4 b q : Int, ∃ g : Bool, qan.f s (p : Int) 0 = some (t1, t2, t3, t4, b, g, s, q, e)) ∨
  (∃ (t : S4) (b : Nat) (g : Bool) (n : Nat), qfs (s.data.toList.drop p) = some (t, b, g, n) ∧ okS t ∧ b < 256 ∧ 0 < n ∧ p + n ≤ s.size ∧ qan.f s (p : Int) 0 = some (t.1, t.2.1, t.2.2.1, t.2.2.2, (b : Int), g, s, ((p + n : Nat) : Int), 0)) := by
 by_cases hp1 : p + 1 < s.size
 rotate_left
 ·refine .inr ⟨ofL [s[p]], s[p].toNat, true, 1, ?_, ofL_ok _, s[p].toNat_lt, by omega, by omega, plain_L hs hp ?_⟩
  ·rw [qck hp, List.drop_eq_nil_of_le (show s.data.toList.length ≤ p + 1 by rw [← qcn]; omega)]
   rfl
  ·unfold qef
   rw [decide_eq_true (show (s.size : Int) ≤ (p : Int) + 1 by omega)]
   simp
 have hd : qfs (s.data.toList.drop p) = if s[p] ≠ 91 ∨ qg1 s[p + 1] = false then some (ofL [s[p]], s[p].toNat, true, 1) else namedL s[p + 1] (s.data.toList.drop (p + 1 + 1)) := by
  rw [qck hp, qck hp1, qfs]
 have hfl := plain_flag hp1
 by_cases hc : s[p] ≠ 91 ∨ qg1 s[p + 1] = false
 ·refine .inr ⟨ofL [s[p]], s[p].toNat, true, 1, hd.trans (if_pos hc), ofL_ok _, s[p].toNat_lt, by omega, by omega, plain_L hs hp ?_⟩
  rw [hfl]
  rcases hc with h | h
  ·rw [bne_iff_ne.2 h]; rfl
  ·rw [h]; simp
 rw [if_neg hc] at hd
 have hpl : qef s (p : Int) = false := by
  rw [hfl]
  have h1 : s[p] = 91 := Decidable.byContradiction fun q => hc (.inl q)
  have h2 : qg1 s[p + 1] = true := by
   cases q : qg1 s[p + 1] with
   | true => rfl
   | false => exact absurd (.inr q) hc
  rw [h1, h2]
  rfl
 have hm := bt_ok s ((p + 1 : Nat) : Int)
 have hmk := u8_bt hp1
 obtain ⟨ix, hix⟩ : ∃ ix, Lib.index (s.data.toList.drop (p + 3)) [s[p + 1], 93] = ix := ⟨_, rfl⟩
 have hnk : qes s (p : Int) = ix := by
  unfold qes
  by_cases h2 : p + 2 < s.size
  ·rw [if_pos (by omega), show ((p : Int) + 3).toNat = p + 3 by omega, ext_drop, show (p : Int) + 1 = ((p + 1 : Nat) : Int) by omega, nums2 hm, hmk]
   exact hix
  ·rw [if_neg (by omega), ← hix, List.drop_eq_nil_of_le (by simp; omega)]
   rfl
 have hd1 : (s.data.toList.drop (p + 1 + 1)).drop 1 = s.data.toList.drop (p + 3) := by rw [List.drop_drop]
 have hnamed : qby.f s (p : Int) 0 = if ix < 0 then some (⟨#[]⟩, bt s ((p + 1 : Nat) : Int), s, (p : Int), 6) else some (s.extract (p + 2) ((p : Int) + 3 + ix).toNat, bt s ((p + 1 : Nat) : Int), s, (p : Int) + 3 + ix + 2, 0) := by
  unfold qby.f
  rw [if_pos (by omega), hnk, show (p : Int) + 1 = ((p + 1 : Nat) : Int) by omega, show ((p : Int) + 2).toNat = p + 2 by omega]
 unfold namedL at hd
 rw [hd1, hix] at hd
 by_cases hneg : ix < 0
 ·rw [if_pos hneg] at hd
  refine .inl ⟨hd, 6, by decide, 0, 0, 0, 0, 0, (p : Int), false, ?_⟩
  unfold qan.f
  rw [if_pos (by omega), if_neg (by rw [hpl]; decide), hnamed, if_pos hneg]
  rfl
 rw [if_neg hneg] at hd
 obtain ⟨i, rfl⟩ := Int.eq_ofNat_of_zero_le (show 0 ≤ ix by omega)
 have hfit := qgd (s.data.toList.drop (p + 3)) [s[p + 1], 93] (by rw [hix]; omega)
 rw [hix, List.length_drop, ← qcn] at hfit
 simp only [List.length_cons, List.length_nil] at hfit
 obtain ⟨en, hen⟩ : ∃ en, en = p + 3 + i := ⟨_, rfl⟩
 have hen2 : en + 2 ≤ s.size := by omega
 rw [if_neg hneg, show (p : Int) + 3 + (i : Int) = (en : Int) by omega, show ((en : Int)).toNat = en by omega, show (en : Int) + 2 = ((en + 2 : Nat) : Int) by omega] at hnamed
 obtain ⟨nm, hnm⟩ : ∃ nm, s.extract (p + 2) en = nm := ⟨_, rfl⟩
 have hnsz : nm.size = i + 1 := by rw [← hnm, ByteArray.size_extract]; omega
 have hnl : nm.data.toList = (s.data.toList.drop (p + 1 + 1)).take (i + 1) := by
  rw [← hnm, Lib.extract_data, show en - (p + 2) = i + 1 by omega]
 rw [hnm] at hnamed
 rw [show ((i : Nat) : Int).toNat = i by omega, ← hnl] at hd
 have hbr : qan.f s (p : Int) 0 = (if bt s ((p + 1 : Nat) : Int) = 58 then (qcy.f nm).bind fun u => some (u.1, u.2.1, u.2.2.1, u.2.2.2.1, 0, false, s, ((en + 2 : Nat) : Int), u.2.2.2.2)
   else if (nm.size : Int) = 1 then (qcz.f nm).bind fun u => some (u.1, u.2.1, u.2.2.1, u.2.2.2, bt nm 0, bt s ((p + 1 : Nat) : Int) == 46, s, ((en + 2 : Nat) : Int), 0)
   else some (0, 0, 0, 0, 0, false, s, ((en + 2 : Nat) : Int), 8)) := by
  unfold qan.f
  rw [if_pos (by omega), if_neg (by rw [hpl]; decide), hnamed, Option.bind_some]
  rfl
 have hbb := qdh hp1
 have e58 : bt s ((p + 1 : Nat) : Int) = 58 ↔ s[p + 1] = 58 := by
  rw [hbb]
  constructor
  ·intro e; apply UInt8.toNat_inj.1; show _ = 58; omega
  ·intro e; rw [e]; rfl
 have e46 : (bt s ((p + 1 : Nat) : Int) == 46) = (s[p + 1] == 46) := by
  rw [hbb, Bool.eq_iff_iff, beq_iff_eq, beq_iff_eq]
  constructor
  ·intro e; apply UInt8.toNat_inj.1; show _ = 46; omega
  ·intro e; rw [e]; rfl
 by_cases h58 : s[p + 1] = 58
 ·rw [if_pos h58] at hd
  rw [if_pos (e58.2 h58)] at hbr
  rcases cls_L nm with ⟨t, hto, hcl, hcb⟩ | ⟨hcl, t1, t2, t3, t4, e, he, hcb⟩
  ·rw [hcl] at hd
   rw [hcb, Option.bind_some] at hbr
   refine .inr ⟨t, 0, false, i + 5, hd, hto, by omega, by omega, by omega, ?_⟩
   rw [show p + (i + 5) = en + 2 by omega]
   exact hbr
  ·rw [hcl] at hd
   rw [hcb, Option.bind_some] at hbr
   exact .inl ⟨hd, e, he, _, _, _, _, _, _, _, hbr⟩
 ·rw [if_neg h58] at hd
  rw [if_neg (fun q => h58 (e58.1 q))] at hbr
  by_cases h1 : i = 0
  ·subst h1
   rw [if_pos rfl] at hd
   rw [if_pos (show (nm.size : Int) = 1 by omega), bOf_eq (by omega), Option.bind_some, e46] at hbr
   have hnl1 : nm.data.toList = (s.data.toList.drop (p + 1 + 1)).take 1 := hnl
   have hp2 : p + 1 + 1 < s.size := by omega
   rw [qck hp2] at hnl1 hd
   have hn0 : nm.data.toList = [s[p + 1 + 1]] := hnl1
   have hb0 : bt nm 0 = (s[p + 1 + 1].toNat : Int) := by
    have := qdh (s := nm) (i := 0) (by omega)
    refine this.trans ?_
    have h0 : nm.data.toList[0]'(by rw [← qcn]; omega) = s[p + 1 + 1] := by simp only [hn0, List.getElem_cons_zero]
    exact congrArg (fun b : UInt8 => (b.toNat : Int)) h0
   refine .inr ⟨ofL [s[p + 1 + 1]], s[p + 1 + 1].toNat, s[p + 1] == 46, 5, hd, ofL_ok _, UInt8.toNat_lt _, by omega, by omega, ?_⟩
   rw [show p + 5 = en + 2 by omega, hbr, ofS_ofL, hn0, hb0]
  ·rw [if_neg h1] at hd
   rw [if_neg (show ¬ (nm.size : Int) = 1 by omega)] at hbr
   exact .inl ⟨hd, 8, by decide, _, _, _, _, _, _, _, hbr⟩
end Go.Proofs.Ytcmipoicnonaeaa.F
end
section
namespace Go.Proofs.Ytcmipoicnonaeaa.F
open Go.RowKit Go.Proofs.YtcmipoicnonaeaaW.PrintWords Go.Proofs.YtcmipoicnonaeaaW.PrintLast
set_option linter.unusedVariables false
set_option linter.unusedSimpArgs false
theorem span_set {lo hi : Nat} (hl : lo < 256) (hh : hi < 256) (h : ¬ hi < lo) : okS (addL qco (List.range' lo (hi - lo + 1))) ∧ qcq.f (lo : Int) (hi : Int) = some ((addL qco (List.range' lo (hi - lo + 1))).1, (addL qco (List.range' lo (hi - lo + 1))).2.1, (addL qco (List.range' lo (hi - lo + 1))).2.2.1, (addL qco (List.range' lo (hi - lo + 1))).2.2.2, 0) := by
 refine ⟨addL_ok (fun b hb => by rw [List.mem_range'_1] at hb; omega) qe9, ?_⟩
 unfold qcq.f spanS
 rw [if_pos (by omega), if_neg (by omega), show (((hi : Int) - (lo : Int) + 1)).toNat = hi - lo + 1 by omega]
 have := orSpan_eq (hi - lo + 1) lo qco
 unfold qco at this
 rw [this]
 rfl
theorem span_err {lo hi : Nat} (hl : lo < 256) (hh : hi < 256) (h : hi < lo) : qcq.f (lo : Int) (hi : Int) = some (0, 0, 0, 0, 7) := by
 unfold qcq.f spanS
 rw [if_pos (by omega), if_pos (by omega)]
set_option maxHeartbeats 1000000 in
theorem span_L (s : ByteArray) (hs : s.size < 4294967281) {p : Nat} (hp : p < s.size) :
  (qgp (s.data.toList.drop p) = none ∧ ∃ e : Int, e ≠ 0 ∧ ∃ t1 t2 t3 t4 q : Int, qbl.f s (p : Int) 0 = some (t1, t2, t3, t4, s, q, e)) ∨
  (∃ (t : S4) (n : Nat), qgp (s.data.toList.drop p) = some (t, n) ∧ okS t ∧ 0 < n ∧ p + n ≤ s.size ∧ qbl.f s (p : Int) 0 = some (t.1, t.2.1, t.2.2.1, t.2.2.2, s, ((p + n : Nat) : Int), 0)) := by
 rcases item_L s hs hp with ⟨hn, e, he, t1, t2, t3, t4, b, q, g, hb⟩ | ⟨t, b, g, n, hi, hto, hbr, hn0, hpn, hb⟩
 ·refine .inl ⟨by unfold qgp; rw [hn], e, he, t1, t2, t3, t4, q, ?_⟩
  unfold qbl.f
  rw [hb, Option.bind_some]
  exact if_pos he
 ·have hda := dash_b s (by omega) (p + n) 0
  have hdl := dash_L s (p + n)
  have hdr : ∀ m, (s.data.toList.drop p).drop m = s.data.toList.drop (p + m) := fun m => by rw [List.drop_drop]
  have hsl : qgp (s.data.toList.drop p) = if qfp (s.data.toList.drop (p + n)) = false then some (t, n) else if g = false then none else
    match qfs (s.data.toList.drop (p + (n + 1))) with
    | none => none
    | some (u, c, g2, n2) => if g2 = false ∨ c < b ∨ qfp (s.data.toList.drop (p + (n + 1 + n2))) = true then none else some (addL qco (List.range' b (c - b + 1)), n + 1 + n2) := by
   unfold qgp
   rw [hi]
   simp only [hdr]
   try rfl
  cases hdash : qf8 s (p + n) with
  | false =>
   rw [hdash] at hda
   rw [← hdl, hdash, if_pos rfl] at hsl
   refine .inr ⟨t, n, hsl, hto, hn0, hpn, ?_⟩
   unfold qbl.f
   rw [hb, Option.bind_some]
   show (if (0 : Int) ≠ 0 then _ else _) = _
   rw [if_neg (by decide), hda, Option.bind_some]
   rfl
  | true =>
   rw [hdash] at hda
   rw [← hdl, hdash, if_neg (by decide)] at hsl
   have hql := dashAt_lt hdash
   have hw : qa0 (wrap64 (((p + n : Nat) : Int) + 1) = ((p + n + 1 : Nat) : Int)) := ⟨qdl (by omega)⟩
   have hsp : qbl.f s (p : Int) 0 = (if (s.size : Int) ≤ ((p + n + 1 : Nat) : Int) then some (t.1, t.2.1, t.2.2.1, t.2.2.2, s, ((p + n + 1 : Nat) : Int), 6) else
     if g = false then some (t.1, t.2.1, t.2.2.1, t.2.2.2, s, ((p + n + 1 : Nat) : Int), 7) else
     (qan.f s ((p + n + 1 : Nat) : Int) 0).bind fun (u1, u2, u3, u4, u5, u6, s11, p11, e11) =>
     if e11 ≠ 0 then some (t.1, t.2.1, t.2.2.1, t.2.2.2, s11, p11, e11) else
     if u6 = false then some (t.1, t.2.1, t.2.2.1, t.2.2.2, s11, p11, 7) else
     (qcq.f (b : Int) u5).bind fun (v1, v2, v3, v4, ev) =>
     if ev ≠ 0 then some (v1, v2, v3, v4, s11, p11, ev) else
     (qay.f s11 p11 0).bind fun (d2, s12, p12, e12) =>
     if d2 = false then some (v1, v2, v3, v4, s12, p12, e12) else some (v1, v2, v3, v4, s12, p12, 7)) := by
    unfold qbl.f
    rw [hb, Option.bind_some]
    show (if (0 : Int) ≠ 0 then _ else _) = _
    rw [if_neg (by decide), hda, Option.bind_some]
    show (if true = false then _ else _) = _
    rw [if_neg (by decide), (qbk _).trans hw.out]
   by_cases hend : s.size ≤ p + n + 1
   ·rw [if_pos (by omega)] at hsp
    refine .inl ⟨?_, 6, by decide, _, _, _, _, _, hsp⟩
    rw [hsl, List.drop_eq_nil_of_le (show s.data.toList.length ≤ p + (n + 1) by rw [← qcn]; omega)]
    simp [qfs]
   rw [if_neg (by omega)] at hsp
   cases g with
   | false =>
    rw [if_pos rfl] at hsp hsl
    exact .inl ⟨hsl, 7, by decide, _, _, _, _, _, hsp⟩
   | true =>
    rw [if_neg (by decide)] at hsp hsl
    rcases item_L s hs (p := p + n + 1) (by omega) with ⟨hn2, e, he, u1, u2, u3, u4, c, r, f, hb2⟩ | ⟨u, c, f, n2, hi2, huo, hcr, hn20, hpn2, hb2⟩
    ·rw [show p + n + 1 = p + (n + 1) by omega] at hn2
     rw [hn2] at hsl
     rw [hb2, Option.bind_some] at hsp
     exact .inl ⟨hsl, e, he, _, _, _, _, _, hsp.trans (if_pos he)⟩
    ·rw [show p + n + 1 = p + (n + 1) by omega] at hi2
     rw [hi2] at hsl
     rw [hb2, Option.bind_some] at hsp
     have hsp2 := hsp.trans (if_neg (by decide))
     have hsl2 : qgp (s.data.toList.drop p) = if f = false ∨ c < b ∨ qfp (s.data.toList.drop (p + (n + 1 + n2))) = true then none else some (addL qco (List.range' b (c - b + 1)), n + 1 + n2) := hsl
     cases f with
     | false =>
      rw [if_pos (.inl rfl)] at hsl2
      exact .inl ⟨hsl2, 7, by decide, _, _, _, _, _, hsp2.trans (if_pos rfl)⟩
     | true =>
      have hsp3 := hsp2.trans (if_neg (by decide))
      by_cases hlt : c < b
      ·rw [if_pos (.inr (.inl hlt))] at hsl2
       rw [span_err hbr hcr hlt, Option.bind_some] at hsp3
       exact .inl ⟨hsl2, 7, by decide, _, _, _, _, _, hsp3.trans (if_pos (by decide))⟩
      ·obtain ⟨hvo, hv⟩ := span_set hbr hcr hlt
       rw [hv, Option.bind_some] at hsp3
       have hsp4 := hsp3.trans (if_neg (by decide))
       have hda2 := dash_b s (by omega) (p + n + 1 + n2) 0
       have hdl2 := dash_L s (p + n + 1 + n2)
       rw [hda2, Option.bind_some] at hsp4
       rw [show p + (n + 1 + n2) = p + n + 1 + n2 by omega, ← hdl2] at hsl2
       cases hdr2 : qf8 s (p + n + 1 + n2) with
       | false =>
        rw [hdr2] at hsp4 hsl2
        rw [if_neg (by simp [hlt])] at hsl2
        refine .inr ⟨_, _, hsl2, hvo, by omega, by omega, ?_⟩
        rw [show p + (n + 1 + n2) = p + n + 1 + n2 by omega]
        exact hsp4
       | true =>
        rw [hdr2] at hsp4 hsl2
        rw [if_pos (.inr (.inr rfl))] at hsl2
        exact .inl ⟨hsl2, 7, by decide, _, _, _, _, _, hsp4⟩
inductive PR : Bool → S4 → List UInt8 → S4 → Nat → Prop
 | stop (t : S4) (l : List UInt8) : PR false t (93 :: l) t 1
 | step {f : Bool} {t : S4} {l : List UInt8} {u : S4} {n : Nat} {t' : S4} {m : Nat} : (f = true ∨ l.head? ≠ some 93) → qgp l = some (u, n) → PR false (orS t u) (l.drop n) t' m → PR f t l t' (n + m)
theorem PR.pos {f : Bool} {t : S4} {l : List UInt8} {t' : S4} {m : Nat} (h : PR f t l t' m) : 0 < m := by
 induction h with
 | stop => decide
 | step _ _ _ ih => omega
def qey (nt : Bool) (t : S4) : S4 := if nt then notS t else t
theorem qha {s : ByteArray} {p : Nat} (h : p < s.size) : (bt s (p : Int) = 93) ↔ (s.data.toList.drop p).head? = some 93 := by
 rw [qdh h, qck h, List.head?_cons]
 constructor
 ·intro e
  congr 1
  apply UInt8.toNat_inj.1
  show _ = 93
  omega
 ·intro e
  rw [Option.some.inj e]
  rfl
theorem PR_loop (s : ByteArray) (hs : s.size < 4294967281) (nt : Bool) {f : Bool} {t : S4} {l : List UInt8} {t' : S4} {m : Nat} (h : PR f t l t' m) :
  ∀ p, l = s.data.toList.drop p → okS t → ∀ k, s.size < k + p → okS t' ∧ p + m ≤ s.size ∧ qce s nt k f t.1 t.2.1 t.2.2.1 t.2.2.2 s (p : Int) 0 = some ((qey nt t').1, (qey nt t').2.1, (qey nt t').2.2.1, (qey nt t').2.2.2, ((p + m : Nat) : Int), 0) := by
 induction h with
 | stop t l =>
  intro p hl ht k hk
  have hp : p < s.size := by
   by_cases hp : p < s.size
   ·exact hp
   ·rw [List.drop_eq_nil_of_le (by rw [← qcn]; omega)] at hl
    cases hl
  obtain ⟨k, rfl⟩ : ∃ j, k = j + 1 := ⟨k - 1, by omega⟩
  have hb : bt s (p : Int) = 93 := (qha hp).2 (by rw [← hl]; rfl)
  have hw : qa0 (wrap64 ((p : Int) + 1) = ((p + 1 : Nat) : Int)) := ⟨qdl (by omega)⟩
  refine ⟨ht, by omega, ?_⟩
  rw [qce, if_neg (by decide), if_neg (by omega), if_neg (by omega), if_pos ⟨hb, rfl⟩, (qbk _).trans hw.out]
  cases nt <;> rfl
 | step hc hsp hr ih =>
  rename_i f t l u n t' m
  intro p hl ht k hk
  have hp : p < s.size := by
   by_cases hp : p < s.size
   ·exact hp
   ·rw [List.drop_eq_nil_of_le (by rw [← qcn]; omega)] at hl
    subst hl
    cases hsp
  obtain ⟨k, rfl⟩ : ∃ j, k = j + 1 := ⟨k - 1, by omega⟩
  subst hl
  rcases span_L s hs hp with ⟨hn, _⟩ | ⟨u', n', hsp', huo, hn0, hpn, hb⟩
  ·rw [hn] at hsp; cases hsp
  ·rw [hsp'] at hsp
   cases hsp
   obtain ⟨h1, h2, h3⟩ := ih (p + n) (by rw [List.drop_drop]) (orS_ok ht huo) k (by omega)
   refine ⟨h1, by omega, ?_⟩
   rw [qce, if_neg (by decide), if_neg (by omega), if_neg (by omega), if_neg, hb, Option.bind_some]
   ·rw [show p + (n + m) = p + n + m by omega]
    exact h3
   ·rintro ⟨q1, q2⟩
    rcases hc with h | h
    ·rw [h] at q2; cases q2
    ·exact h ((qha hp).1 q1)
theorem loop_or (s : ByteArray) (hs : s.size < 4294967281) (nt : Bool) : ∀ (n p : Nat) (f : Bool) (t : S4), s.size ≤ n + p → okS t →
  (∃ t' m, PR f t (s.data.toList.drop p) t' m) ∨ ∃ e : Int, e ≠ 0 ∧ qce s nt (n + 1) f t.1 t.2.1 t.2.2.1 t.2.2.2 s (p : Int) 0 = some (0, 0, 0, 0, 0, e) := by
 intro n
 induction n with
 | zero =>
  intro p f t h ht
  refine .inr ⟨6, by decide, ?_⟩
  rw [qce, if_neg (by decide), if_pos (by omega)]
 | succ n ih =>
  intro p f t h ht
  by_cases hp : p < s.size
  ·by_cases hc : bt s (p : Int) = 93 ∧ f = false
   ·refine .inl ⟨t, 1, ?_⟩
    have hh := (qha hp).1 hc.1
    rw [qck hp] at hh ⊢
    rw [List.head?_cons] at hh
    rw [hc.2, Option.some.inj hh]
    exact .stop t _
   ·have hpl : qce s nt (n + 1 + 1) f t.1 t.2.1 t.2.2.1 t.2.2.2 s (p : Int) 0 = (qbl.f s (p : Int) 0).bind fun (u1, u2, u3, u4, rs', p', e') =>
      qce s nt (n + 1) false (Go.bits .or .u64 t.1 u1) (Go.bits .or .u64 t.2.1 u2) (Go.bits .or .u64 t.2.2.1 u3) (Go.bits .or .u64 t.2.2.2 u4) rs' p' e' := by
     rw [qce, if_neg (by decide), if_neg (by omega), if_neg (by omega), if_neg hc]
    rcases span_L s hs hp with ⟨hn, e, he, t1, t2, t3, t4, q, hb⟩ | ⟨u, m, hsp, huo, hm0, hpm, hb⟩
    ·refine .inr ⟨e, he, ?_⟩
     rw [hpl, hb, Option.bind_some]
     show qce s nt (n + 1) _ _ _ _ _ _ _ _ = _
     rw [qce, if_pos he]
    ·rcases ih (p + m) false (orS t u) (by omega) (orS_ok ht huo) with ⟨t', m', hr⟩ | ⟨e, he, hr⟩
     ·refine .inl ⟨t', m + m', .step ?_ hsp (by rw [List.drop_drop]; exact hr)⟩
      cases f with
      | true => exact .inl rfl
      | false => exact .inr fun q => hc ⟨(qha hp).2 q, rfl⟩
     ·refine .inr ⟨e, he, ?_⟩
      rw [hpl, hb, Option.bind_some]
      exact hr
  ·refine .inr ⟨6, by decide, ?_⟩
   rw [qce, if_neg (by decide), if_pos (by omega)]
def BR (nt : Bool) (l : List UInt8) (t : S4) (m : Nat) : Prop :=
 ∃ l', l = 91 :: l' ∧ ((nt = false ∧ l'.head? ≠ some 94 ∧ ∃ k, PR true qco l' t k ∧ m = k + 1) ∨ (nt = true ∧ ∃ l2 k, l' = 94 :: l2 ∧ PR true qco l2 t k ∧ m = k + 2))
theorem head_lt {s : ByteArray} {p : Nat} {b : UInt8} {l : List UInt8} (h : s.data.toList.drop p = b :: l) : ∃ hp : p < s.size, s[p] = b ∧ s.data.toList.drop (p + 1) = l := by
 by_cases hp : p < s.size
 ·rw [qck hp] at h
  injection h with h1 h2
  exact ⟨hp, h1, h2⟩
 ·rw [List.drop_eq_nil_of_le (by rw [← qcn]; omega)] at h
  cases h
set_option maxHeartbeats 1000000 in
theorem BR_parse (s : ByteArray) (hs : s.size < 4294967281) (p : Nat) {nt : Bool} {t : S4} {m : Nat} (h : BR nt (s.data.toList.drop p) t m) :
  okS t ∧ p + m ≤ s.size ∧ qbu.f s (p : Int) = some ((qey nt t).1, (qey nt t).2.1, (qey nt t).2.2.1, (qey nt t).2.2.2, ((p + m : Nat) : Int), 0) := by
 obtain ⟨l', hl, h⟩ := h
 obtain ⟨hp, hs0, hd1⟩ := head_lt hl
 have hb : bt s (p : Int) = 91 := by rw [qdh hp, hs0]; rfl
 have hw : qa0 (wrap64 ((p : Int) + 1) = ((p + 1 : Nat) : Int)) := ⟨qdl (by omega)⟩
 have hw2 : qa0 (wrap64 (((p + 1 : Nat) : Int) + 1) = ((p + 2 : Nat) : Int)) := ⟨qdl (by omega)⟩
 have hbp : qbu.f s (p : Int) = (if ((p + 1 : Nat) : Int) < (s.size : Int) ∧ bt s ((p + 1 : Nat) : Int) = 94 then qce s true (s.size + 1) true 0 0 0 0 s ((p + 2 : Nat) : Int) 0
   else qce s false (s.size + 1) true 0 0 0 0 s ((p + 1 : Nat) : Int) 0) := by
  unfold qbu.f
  rw [if_neg (by rw [hb]; omega), (qbk _).trans hw.out, (qbk _).trans hw2.out, if_neg (by omega)]
 rcases h with ⟨rfl, hh, k, hr, rfl⟩ | ⟨rfl, l2, k, rfl, hr, rfl⟩
 ·obtain ⟨h1, h2, h3⟩ := PR_loop s hs false hr (p + 1) hd1.symm qe9 (s.size + 1) (by omega)
  refine ⟨h1, by omega, ?_⟩
  rw [hbp, if_neg, show p + (k + 1) = p + 1 + k by omega]
  ·exact h3
  ·rintro ⟨q1, q2⟩
   have hp1 : p + 1 < s.size := by omega
   apply hh
   rw [← hd1, qck hp1, List.head?_cons]
   congr 1
   rw [qdh hp1] at q2
   apply UInt8.toNat_inj.1
   show _ = 94
   omega
 ·obtain ⟨hp1, hs1, hd2⟩ := head_lt hd1
  obtain ⟨h1, h2, h3⟩ := PR_loop s hs true hr (p + 2) hd2.symm qe9 (s.size + 1) (by omega)
  refine ⟨h1, by omega, ?_⟩
  rw [hbp, if_pos ⟨by omega, by rw [qdh hp1, hs1]; rfl⟩, show p + (k + 2) = p + 2 + k by omega]
  exact h3
set_option maxHeartbeats 1000000 in
theorem BR_or (s : ByteArray) (hs : s.size < 4294967281) (p : Nat) :
  (∃ nt t m, BR nt (s.data.toList.drop p) t m) ∨ ∃ e : Int, e ≠ 0 ∧ qbu.f s (p : Int) = some (0, 0, 0, 0, 0, e) := by
 by_cases hc : (p : Int) < 0 ∨ (s.size : Int) ≤ (p : Int) ∨ bt s (p : Int) ≠ 91
 ·refine .inr ⟨1, by decide, ?_⟩
  unfold qbu.f
  rw [if_pos hc]
 ·have hp : p < s.size := by
   by_cases hp : p < s.size
   ·exact hp
   ·exact absurd (.inr (.inl (by omega))) hc
  have hb : bt s (p : Int) = 91 := Decidable.byContradiction (fun q => hc (.inr (.inr q)))
  have hw : qa0 (wrap64 ((p : Int) + 1) = ((p + 1 : Nat) : Int)) := ⟨qdl (by omega)⟩
  have hw2 : qa0 (wrap64 (((p + 1 : Nat) : Int) + 1) = ((p + 2 : Nat) : Int)) := ⟨qdl (by omega)⟩
  have hbp : qbu.f s (p : Int) = (if ((p + 1 : Nat) : Int) < (s.size : Int) ∧ bt s ((p + 1 : Nat) : Int) = 94 then qce s true (s.size + 1) true 0 0 0 0 s ((p + 2 : Nat) : Int) 0
    else qce s false (s.size + 1) true 0 0 0 0 s ((p + 1 : Nat) : Int) 0) := by
   unfold qbu.f
   rw [if_neg hc, (qbk _).trans hw.out, (qbk _).trans hw2.out, if_neg (by omega)]
  have hs0 : s[p] = 91 := by
   rw [qdh hp] at hb
   apply UInt8.toNat_inj.1
   show _ = 91
   omega
  have hd : s.data.toList.drop p = 91 :: s.data.toList.drop (p + 1) := by rw [qck hp, hs0]
  by_cases hn : ((p + 1 : Nat) : Int) < (s.size : Int) ∧ bt s ((p + 1 : Nat) : Int) = 94
  ·have hp1 : p + 1 < s.size := by omega
   rw [if_pos hn] at hbp
   rcases loop_or s hs true s.size (p + 2) true qco (by omega) qe9 with ⟨t', m, hr⟩ | ⟨e, he, hr⟩
   ·refine .inl ⟨true, t', m + 2, _, hd, .inr ⟨rfl, s.data.toList.drop (p + 2), m, ?_, hr, rfl⟩⟩
    have h94 := hn.2
    rw [qdh hp1] at h94
    rw [qck hp1]
    congr 1
    apply UInt8.toNat_inj.1
    show _ = 94
    omega
   ·exact .inr ⟨e, he, hbp.trans hr⟩
  ·rw [if_neg hn] at hbp
   rcases loop_or s hs false s.size (p + 1) true qco (by omega) qe9 with ⟨t', m, hr⟩ | ⟨e, he, hr⟩
   ·refine .inl ⟨false, t', m + 1, _, hd, .inl ⟨rfl, ?_, m, hr, rfl⟩⟩
    intro q
    apply hn
    by_cases hp1 : p + 1 < s.size
    ·rw [qck hp1, List.head?_cons] at q
     refine ⟨by omega, ?_⟩
     rw [qdh hp1, Option.some.inj q]
     rfl
    ·rw [List.drop_eq_nil_of_le (show s.data.toList.length ≤ p + 1 by rw [← qcn]; omega)] at q
     cases q
   ·exact .inr ⟨e, he, hbp.trans hr⟩
end Go.Proofs.Ytcmipoicnonaeaa.F
end
