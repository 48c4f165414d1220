/- Texts of this claim, 26 of 28: PureSets, F70, F58, F69, F93, F80, PureSets2, BrePure3, F84, F89, F90, F85, F78, F79, F68, PureParse1, PureParse2, PureParse3, PureParse4, PureList1, PureList2, BrePure4. -/
import Derived.Laws.BitsAllLaws
import Derived.Lib.Zigzag
import Derived.KernelRfl
import Derived.Test.YtcmipoicnonaeaaKQ4
import Derived.Test.YtcmipoicnonaeaaKQ6
import Derived.Test.YtcmipoicnonaeaaKQ7
import Derived.Test.YtcmipoicnonaeaaKQ11
import Derived.Test.YtcmipoicnonaeaaKQ12
import Derived.Test.YtcmipoicnonaeaaKQ14
import Derived.Test.YtcmipoicnonaeaaKQ22
import Derived.Test.YtcmipoicnonaeaaKQ23
import Derived.Test.YtcmipoicnonaeaaKQ25
section
namespace Go.Proofs.Ytcmipoicnonaeaa.F
open Go.RowKit Go.Proofs.YtcmipoicnonaeaaW.PrintWords
set_option linter.unusedVariables false
set_option linter.unusedSimpArgs false
def w64 (x : Int) : Prop := 0 ≤ x ∧ x < 18446744073709551616
abbrev S4 := Int × Int × Int × Int
def okS (s : S4) : Prop := w64 s.1 ∧ w64 s.2.1 ∧ w64 s.2.2.1 ∧ w64 s.2.2.2
def wrd (s : S4) (k : Nat) : Nat := if k = 0 then s.1.toNat else if k = 1 then s.2.1.toNat else if k = 2 then s.2.2.1.toNat else s.2.2.2.toNat
def has (s : S4) (b : Nat) : Bool := (wrd s (b / 64)).testBit (b % 64)
theorem wrd_lt {s : S4} (h : okS s) (k : Nat) : wrd s k < 2 ^ 64 := by
 obtain ⟨h0, h1, h2, h3⟩ := h
 unfold w64 at *
 unfold wrd
 split
 ·omega
 ·split
  ·omega
  ·split <;> omega
theorem qif (m : Nat) : (2 : Int) ^ m = ((2 ^ m : Nat) : Int) := by simp
theorem hasBit_eq {s : S4} (h : okS s) {b : Nat} (hb : b < 256) : hasBit s.1 s.2.1 s.2.2.1 s.2.2.2 (b : Int) = has s b := by
 have hw : wordOf s.1 s.2.1 s.2.2.1 s.2.2.2 (b : Int) = (wrd s (b / 64) : Int) := by
  obtain ⟨h0, h1, h2, h3⟩ := h
  unfold w64 at *
  unfold wordOf wrd
  rcases (by omega : b / 64 = 0 ∨ b / 64 = 1 ∨ b / 64 = 2 ∨ b / 64 = 3) with e | e | e | e
  all_goals
   have e' : (b : Int) / 64 = ((b / 64 : Nat) : Int) := by omega
   rw [e', e]
   simp
   omega
 have hlt := wrd_lt h (b / 64)
 unfold hasBit
 rw [hw, show ((b : Int) % 64).toNat = b % 64 by omega, qif]
 rw [show ((wrd s (b / 64) : Int) / ((2 ^ (b % 64) : Nat) : Int)) = ((wrd s (b / 64) / 2 ^ (b % 64) : Nat) : Int) by simp]
 have hq : wrd s (b / 64) / 2 ^ (b % 64) < 18446744073709551616 := Nat.lt_of_le_of_lt (Nat.div_le_self _ _) (by simpa using hlt)
 unfold has
 rw [Nat.testBit_eq_decide_div_mod_eq]
 obtain ⟨q, hqq⟩ : ∃ q, wrd s (b / 64) / 2 ^ (b % 64) = q := ⟨_, rfl⟩
 rw [hqq] at hq ⊢
 rw [Go.Lib.u64_and1 _ (by omega) (by omega)]
 by_cases hx : q % 2 = 1
 ·rw [decide_eq_true hx, show ((q : Int) % 2) = 1 by omega]; rfl
 ·rw [decide_eq_false hx, show ((q : Int) % 2) = 0 by omega]; rfl
def addS (s : S4) (b : Int) : S4 := (qco s.1 0 b, qco s.2.1 1 b, qco s.2.2.1 2 b, qco s.2.2.2 3 b)
theorem w64_pow {m : Nat} (h : m < 64) : w64 ((2 : Int) ^ m) := by
 have h1 : (2 : Nat) ^ m < 2 ^ 64 := Nat.pow_lt_pow_right (by decide) h
 have h2 : (2 : Nat) ^ m ≥ 0 := Nat.zero_le _
 rw [qif]
 unfold w64
 omega
theorem qfm {x : Int} (hx : w64 x) (k b : Nat) (hb : b < 256) : w64 (qco x (k : Int) (b : Int)) ∧ (qco x (k : Int) (b : Int)).toNat = if b / 64 = k then x.toNat ||| 2 ^ (b % 64) else x.toNat := by
 unfold qco
 by_cases h : b / 64 = k
 ·have h' : (b : Int) / 64 = (k : Int) := by omega
  rw [if_pos h', if_pos h]
  have hp := w64_pow (m := b % 64) (by omega)
  rw [show ((b : Int) % 64).toNat = b % 64 by omega, u64_or x _ hx.1 hx.2 hp.1 hp.2]
  have e : ((2 : Int) ^ (b % 64)).toNat = 2 ^ (b % 64) := by rw [qif]; exact Int.toNat_natCast _
  rw [e]
  have hlt : x.toNat ||| 2 ^ (b % 64) < 2 ^ 64 := Nat.or_lt_two_pow (by have := hx; unfold w64 at this; omega) (Nat.pow_lt_pow_right (by decide) (by omega))
  refine ⟨?_, Int.toNat_natCast _⟩
  unfold w64
  omega
 ·rw [if_neg (by omega), if_neg h]
  exact ⟨hx, rfl⟩
theorem addS_ok {s : S4} (h : okS s) {b : Nat} (hb : b < 256) : okS (addS s b) :=
 ⟨(qfm h.1 0 b hb).1, (qfm h.2.1 1 b hb).1, (qfm h.2.2.1 2 b hb).1, (qfm h.2.2.2 3 b hb).1⟩
def qcq : S4 := (0, 0, 0, 0)
theorem qe6 : okS qcq := by simp [okS, qcq, w64]
theorem has_zero (b : Nat) : has qcq b = false := by
 unfold has wrd qcq
 split
 ·simp
 ·split
  ·simp
  ·split <;> simp
def orS (s t : S4) : S4 := (Go.bits .or .u64 s.1 t.1, Go.bits .or .u64 s.2.1 t.2.1, Go.bits .or .u64 s.2.2.1 t.2.2.1, Go.bits .or .u64 s.2.2.2 t.2.2.2)
theorem qi3 {x y : Int} (hx : w64 x) (hy : w64 y) : w64 (Go.bits .or .u64 x y) ∧ (Go.bits .or .u64 x y).toNat = x.toNat ||| y.toNat := by
 rw [u64_or x y hx.1 hx.2 hy.1 hy.2]
 have hlt : x.toNat ||| y.toNat < 2 ^ 64 := Nat.or_lt_two_pow (by unfold w64 at hx; omega) (by unfold w64 at hy; omega)
 refine ⟨?_, Int.toNat_natCast _⟩
 unfold w64
 omega
theorem orS_ok {s t : S4} (hs : okS s) (ht : okS t) : okS (orS s t) := ⟨(qi3 hs.1 ht.1).1, (qi3 hs.2.1 ht.2.1).1, (qi3 hs.2.2.1 ht.2.2.1).1, (qi3 hs.2.2.2 ht.2.2.2).1⟩
def notS (s : S4) : S4 := (Go.bits .xor .u64 (-1) s.1, Go.bits .xor .u64 (-1) s.2.1, Go.bits .xor .u64 (-1) s.2.2.1, Go.bits .xor .u64 (-1) s.2.2.2)
theorem qh9 {x : Int} (hx : w64 x) : w64 (Go.bits .xor .u64 (-1) x) ∧ (Go.bits .xor .u64 (-1) x).toNat = 2 ^ 64 - (x.toNat + 1) := by
 have e : Go.bits .xor .u64 (-1) x = Go.bits .xor .u64 18446744073709551615 x := by
  unfold Go.bits
  rw [show BitVec.ofInt IntKind.u64.bits (-1) = BitVec.ofInt IntKind.u64.bits 18446744073709551615 by decide]
 rw [e, u64_xor _ x (by omega) (by omega) hx.1 hx.2]
 have h1 : x.toNat < 2 ^ 64 := by unfold w64 at hx; omega
 have h2 : (18446744073709551615 : Int).toNat ^^^ x.toNat = 2 ^ 64 - (x.toNat + 1) := by
  apply Nat.eq_of_testBit_eq
  intro i
  rw [Nat.testBit_two_pow_sub_succ h1, Nat.testBit_xor, show (18446744073709551615 : Int).toNat = 2 ^ 64 - 1 by decide, Nat.testBit_two_pow_sub_one]
  by_cases hi : i < 64
  ·simp [hi]
  ·rw [Nat.testBit_lt_two_pow (Nat.lt_of_lt_of_le h1 (Nat.pow_le_pow_right (by decide) (by omega)))]
   simp [hi]
 rw [h2]
 refine ⟨?_, Int.toNat_natCast _⟩
 unfold w64
 omega
theorem notS_ok {s : S4} (hs : okS s) : okS (notS s) := ⟨(qh9 hs.1).1, (qh9 hs.2.1).1, (qh9 hs.2.2.1).1, (qh9 hs.2.2.2).1⟩
def addL (s : S4) (l : List Nat) : S4 := l.foldl (fun (s : S4) (b : Nat) => addS s (b : Int)) s
theorem addL_ok {l : List Nat} (hl : ∀ b ∈ l, b < 256) : ∀ {s : S4}, okS s → okS (addL s l) := by
 induction l with
 | nil => intro s h; exact h
 | cons b l ih => intro s h; exact ih (fun c hc => hl c (List.mem_cons_of_mem _ hc)) (addS_ok h (hl b List.mem_cons_self))
end Go.Proofs.Ytcmipoicnonaeaa.F
end
section
namespace Go.Proofs.Ytcmipoicnonaeaa.F
open Go.RowKit Go.Proofs.YtcmipoicnonaeaaW.PrintWords Go.Proofs.YtcmipoicnonaeaaW.PrintLast Go.Proofs.YtcmipoicnonaeaaW.PrintMore
set_option linter.unusedVariables false
set_option linter.unusedSimpArgs false
def qen.f (a0_0 a0_1 a0_2 a0_3 a1 : Int) : Option Bool := if 0 ≤ a1 ∧ a1 < 256 then some (hasBit a0_0 a0_1 a0_2 a0_3 a1) else none
end Go.Proofs.Ytcmipoicnonaeaa.F
end
section
namespace Go.Proofs.Ytcmipoicnonaeaa.F
open Go.RowKit Go.Proofs.YtcmipoicnonaeaaW.PrintWords Go.Proofs.YtcmipoicnonaeaaW.PrintLast Go.Proofs.YtcmipoicnonaeaaW.PrintMore
attribute [local go_sem] qbx qbv qcc qca qbl qbk qbw qbu
set_option linter.unusedVariables false
set_option linter.unusedSimpArgs false
end Go.Proofs.Ytcmipoicnonaeaa.F
end
section
namespace Go.Proofs.Ytcmipoicnonaeaa.F
open Go.RowKit Go.Proofs.YtcmipoicnonaeaaW.PrintWords Go.Proofs.YtcmipoicnonaeaaW.PrintLast Go.Proofs.YtcmipoicnonaeaaW.PrintMore
attribute [local go_sem] qbx qbv qcc qca qbl qbk qbw qbu
set_option linter.unusedVariables false
set_option linter.unusedSimpArgs false
end Go.Proofs.Ytcmipoicnonaeaa.F
end
section
namespace Go.Proofs.Ytcmipoicnonaeaa.F
open Go.RowKit Go.Proofs.YtcmipoicnonaeaaW.PrintWords Go.Proofs.YtcmipoicnonaeaaW.PrintLast Go.Proofs.YtcmipoicnonaeaaW.PrintMore
attribute [local go_sem] qbx qbv qcc qca qbl qbk qbw qbu
set_option linter.unusedVariables false
set_option linter.unusedSimpArgs false
def qb4.l0 : Nat → List Int → Int → Int → Int → Int → Int → Option (List Int)
 | 0, _, _, _, _, _, _ => none
 | k + 1, x3, x4, x434000, x434001, x434002, x434003 => if x4 < 256 then ((qen.f x434000 x434001 x434002 x434003 x4).bind fun t434 => (if t434 = true then (if x3.length < 140737488355328 then (qb4.l0 k (x3 ++ [(x4) % 256]) (wrap64 (x4 + 1)) x434000 x434001 x434002 x434003) else (none)) else (qb4.l0 k x3 (wrap64 (x4 + 1)) x434000 x434001 x434002 x434003))) else (some x3)
def qb4.f (k : Nat) (a0_0 : Int) (a0_1 : Int) (a0_2 : Int) (a0_3 : Int) : Option (List Int) := qb4.l0 k ([] : List Int) 0 a0_0 a0_1 a0_2 a0_3
theorem qb4.qd0 : ∀ k, (∀ y0 y1 y2 y3 y4 y5, LeO (qb4.l0 k y0 y1 y2 y3 y4 y5) (qb4.l0 (k + 1) y0 y1 y2 y3 y4 y5))
 | 0 => fun _ _ _ _ _ _ r h => by simp [qb4.l0] at h
 | k + 1 => by
  have ih0 := qb4.qd0 k
  ·intro y0 y1 y2 y3 y4 y5
   unfold qb4.l0
   repeat' first
   | (with_reducible exact ih0 _ _ _ _ _ _)
   | (with_reducible exact LeO.refl _)
   | (with_reducible exact LeO.none _)
   | (with_reducible refine LeO.ite ?_ ?_)
   | (with_reducible refine LeO.bind ?_ (fun _ => ?_))
   | exact ih0 _ _ _ _ _ _
   | exact LeO.none _
   | refine LeO.ite ?_ ?_
   | refine LeO.bind ?_ (fun _ => ?_)
theorem qb4.mono : ∀ a0 a1 a2 a3 k, LeO (qb4.f k a0 a1 a2 a3) (qb4.f (k + 1) a0 a1 a2 a3) := by
 intro a0 a1 a2 a3 k
 have ih0 := qb4.qd0 k
 unfold qb4.f
 repeat' first
   | (with_reducible exact ih0 _ _ _ _ _ _)
   | (with_reducible exact LeO.refl _)
   | (with_reducible exact LeO.none _)
   | (with_reducible refine LeO.ite ?_ ?_)
   | (with_reducible refine LeO.bind ?_ (fun _ => ?_))
   | exact ih0 _ _ _ _ _ _
   | exact LeO.none _
   | refine LeO.ite ?_ ?_
   | refine LeO.bind ?_ (fun _ => ?_)
end Go.Proofs.Ytcmipoicnonaeaa.F
end
section
namespace Go.Proofs.Ytcmipoicnonaeaa.F
open Go.RowKit Go.Proofs.YtcmipoicnonaeaaW.PrintWords Go.Proofs.YtcmipoicnonaeaaW.PrintLast Go.Proofs.YtcmipoicnonaeaaW.PrintMore
attribute [local go_sem] qbx qbv qcc qca qbl qbk qbw qbu
set_option linter.unusedVariables false
set_option linter.unusedSimpArgs false
def qb9.l0 : Nat → Int → Int → Int → Int → Int → Int → Int → Option (Int × Int × Int × Int × Int)
 | 0, _, _, _, _, _, _, _ => none
 | k + 1, x0, x1, x7, x429000, x429001, x429002, x429003 => if x7 < 256 then (if x7 ≥ (wrap64 (x0)) then (if x7 ≤ (wrap64 (x1)) then ((qcm.f x429000 x429001 x429002 x429003 x7).bind fun bt429 => (qb9.l0 k x0 x1 (wrap64 (x7 + 1)) bt429.1 bt429.2.1 bt429.2.2.1 bt429.2.2.2)) else (qb9.l0 k x0 x1 (wrap64 (x7 + 1)) x429000 x429001 x429002 x429003)) else (qb9.l0 k x0 x1 (wrap64 (x7 + 1)) x429000 x429001 x429002 x429003)) else (some (x429000, x429001, x429002, x429003, 0))
def qb9.f (k : Nat) (a0 : Int) (a1 : Int) : Option (Int × Int × Int × Int × Int) := if a1 < a0 then (some (0, 0, 0, 0, 7)) else (qb9.l0 k a0 a1 0 0 0 0 0)
theorem qb9.qd0 : ∀ k, (∀ y0 y1 y2 y3 y4 y5 y6, LeO (qb9.l0 k y0 y1 y2 y3 y4 y5 y6) (qb9.l0 (k + 1) y0 y1 y2 y3 y4 y5 y6))
 | 0 => fun _ _ _ _ _ _ _ r h => by simp [qb9.l0] at h
 | k + 1 => by
  have ih0 := qb9.qd0 k
  ·intro y0 y1 y2 y3 y4 y5 y6
   unfold qb9.l0
   repeat' first
   | (with_reducible exact ih0 _ _ _ _ _ _ _)
   | (with_reducible exact LeO.refl _)
   | (with_reducible exact LeO.none _)
   | (with_reducible refine LeO.ite ?_ ?_)
   | (with_reducible refine LeO.bind ?_ (fun _ => ?_))
   | exact ih0 _ _ _ _ _ _ _
   | exact LeO.none _
   | refine LeO.ite ?_ ?_
   | refine LeO.bind ?_ (fun _ => ?_)
theorem qb9.mono : ∀ a0 a1 k, LeO (qb9.f k a0 a1) (qb9.f (k + 1) a0 a1) := by
 intro a0 a1 k
 have ih0 := qb9.qd0 k
 unfold qb9.f
 repeat' first
   | (with_reducible exact ih0 _ _ _ _ _ _ _)
   | (with_reducible exact LeO.refl _)
   | (with_reducible exact LeO.none _)
   | (with_reducible refine LeO.ite ?_ ?_)
   | (with_reducible refine LeO.bind ?_ (fun _ => ?_))
   | exact ih0 _ _ _ _ _ _ _
   | exact LeO.none _
   | refine LeO.ite ?_ ?_
   | refine LeO.bind ?_ (fun _ => ?_)
end Go.Proofs.Ytcmipoicnonaeaa.F
end
section
namespace Go.Proofs.Ytcmipoicnonaeaa.F
open Go.RowKit Go.Proofs.YtcmipoicnonaeaaW.PrintWords
set_option linter.unusedVariables false
set_option linter.unusedSimpArgs false
theorem With_eq (s : S4) {b : Int} (h0 : 0 ≤ b) (h1 : b < 256) : qcm.f s.1 s.2.1 s.2.2.1 s.2.2.2 b = some (addS s b) := by
  unfold qcm.f
  rw [if_pos ⟨h0, h1⟩]
  rfl
theorem Has_eq {s : S4} (h : okS s) {b : Nat} (hb : b < 256) : qen.f s.1 s.2.1 s.2.2.1 s.2.2.2 (b : Int) = some (has s b) := by
  unfold qen.f
  rw [if_pos (by omega), hasBit_eq h hb]
theorem qdj {n : Nat} (h : n < 9223372036854775807) : wrap64 ((n : Int) + 1) = ((n + 1 : Nat) : Int) := by rw [qcb (by omega) (by omega)]; omega
theorem qfg {s : S4} (hs : okS s) : ∀ (n : Nat) (x : Nat) (l : List Int), x + n = 256 → l.length ≤ x → ∀ j, qb4.l0 (n + 1 + j) l (x : Int) s.1 s.2.1 s.2.2.1 s.2.2.2 = some (l ++ ((List.range' x n).filter (has s)).map (fun (b : Nat) => (b : Int)))
  | 0, x, l, h, _, j => by
    rw [show 0 + 1 + j = j + 1 by omega, qb4.l0, if_neg (by omega)]
    simp
  | n + 1, x, l, h, hl, j => by
    rw [show n + 1 + 1 + j = (n + 1 + j) + 1 by omega, qb4.l0, if_pos (by omega), Has_eq hs (by omega), Option.bind_some, qdj (by omega), List.range'_succ]
    cases hh : has s x with
    | true =>
      rw [if_pos rfl, if_pos (by omega), qfg hs n (x + 1) _ (by omega) (by simp; omega) j, List.filter_cons_of_pos hh]
      simp
      omega
    | false =>
      rw [if_neg (by decide), qfg hs n (x + 1) _ (by omega) (by omega) j, List.filter_cons_of_neg (by simp [hh])]
def memN (s : S4) : List Nat := (List.range' 0 256).filter (has s)
theorem Members_eq {s : S4} (hs : okS s) (j : Nat) : qb4.f (257 + j) s.1 s.2.1 s.2.2.1 s.2.2.2 = some ((memN s).map (fun (b : Nat) => (b : Int))) := by
  have h := qfg hs 256 0 [] rfl (by simp) j
  rw [show 256 + 1 + j = 257 + j by omega] at h
  exact h
theorem qia : ∀ (l : List UInt8) (s : S4), qf8 l s = addL s (l.map UInt8.toNat)
  | [], s => rfl
  | b :: l, s => qia l _
theorem bytes_lt (l : List UInt8) : ∀ b ∈ l.map UInt8.toNat, b < 256 := by
  intro b hb
  obtain ⟨c, _, rfl⟩ := List.mem_map.1 hb
  exact c.toNat_lt
def ofS (a : ByteArray) : S4 := addL qcq (a.data.toList.map UInt8.toNat)
theorem bOf_eq {a : ByteArray} (h : a.size ≤ 9223372036854775807) : qcz.f a = some (ofS a) := by
  unfold qcz.f
  rw [if_pos h, qia]
  rfl
theorem Of_loop (a : ByteArray) (h : a.size < 9223372036854775807) : ∀ (n : Nat) (x : Nat) (t : S4), x + n = a.size → ∀ j, qb2.l0 (n + 1 + j) a (x : Int) t.1 t.2.1 t.2.2.1 t.2.2.2 = some (addL t ((a.data.toList.drop x).map UInt8.toNat))
  | 0, x, t, hx, j => by
    rw [show 0 + 1 + j = j + 1 by omega, qb2.l0, if_neg (by omega), List.drop_eq_nil_of_le (by simp; omega)]
    rfl
  | n + 1, x, t, hx, j => by
    have hb := qhi a (x : Int)
    have hlt : x < a.size := by omega
    rw [show n + 1 + 1 + j = (n + 1 + j) + 1 by omega, qb2.l0, if_pos (by omega), if_pos (by omega), qcb (by omega) (by omega), With_eq t (by omega) (by omega), Option.bind_some, qdj (by omega), Of_loop a h n (x + 1) _ (by omega) j, qck hlt]
    have e : bt a (x : Int) = ((a[x].toNat : Nat) : Int) := (qbs a x (by simpa using hlt)).symm
    rw [e]
    rfl
theorem Of_eq {a : ByteArray} (h : a.size < 9223372036854775807) (j : Nat) : qb2.f (a.size + 1 + j) a = some (ofS a) := by
  have := Of_loop a h a.size 0 qcq (by omega) j
  exact this
end Go.Proofs.Ytcmipoicnonaeaa.F
end
section
namespace Go.Proofs.Ytcmipoicnonaeaa.F
open Go.RowKit Go.Proofs.YtcmipoicnonaeaaW.PrintWords Go.Proofs.YtcmipoicnonaeaaW.PrintLast Go.Proofs.YtcmipoicnonaeaaW.PrintMore
set_option linter.unusedVariables false
set_option linter.unusedSimpArgs false
def qel (s : ByteArray) (i : Nat) : Bool := decide (i < s.size) && decide (48 ≤ bt s (i : Int)) && decide (bt s (i : Int) ≤ 57)
def numS (s : ByteArray) : Nat → Nat → Int → Int × Nat
 | 0, i, n => (n, i)
 | m + 1, i, n => if qel s i = true then numS s m (i + 1) (min (10 * n + (bt s (i : Int) - 48)) 256) else (n, i)
def numA (s : ByteArray) (i : Nat) : Int × Nat := (if (numS s (s.size + 1) i 0).2 = i then -1 else (numS s (s.size + 1) i 0).1, (numS s (s.size + 1) i 0).2)
theorem numS_ok (s : ByteArray) : ∀ (m i : Nat) (n : Int), 0 ≤ n → n ≤ 256 → 0 ≤ (numS s m i n).1 ∧ (numS s m i n).1 ≤ 256 ∧ i ≤ (numS s m i n).2 ∧ (i ≤ s.size → (numS s m i n).2 ≤ s.size)
 | 0, i, n, h0, h1 => ⟨h0, h1, Nat.le_refl _, id⟩
 | m + 1, i, n, h0, h1 => by
  rw [numS]
  by_cases c : qel s i = true
  ·rw [if_pos c]
   have hd := c
   unfold qel at hd
   simp only [Bool.and_eq_true, decide_eq_true_eq] at hd
   obtain ⟨⟨h2, h3⟩, h4⟩ := hd
   obtain ⟨a, b, d, e⟩ := numS_ok s m (i + 1) (min (10 * n + (bt s (i : Int) - 48)) 256) (by omega) (by omega)
   exact ⟨a, b, by omega, fun _ => e h2⟩
  ·rw [if_neg c]
   exact ⟨h0, h1, Nat.le_refl _, id⟩
theorem qh0 (s : ByteArray) (i : Nat) (hi : i ≤ s.size) : -1 ≤ (numA s i).1 ∧ (numA s i).1 ≤ 256 ∧ i ≤ (numA s i).2 ∧ (numA s i).2 ≤ s.size := by
 obtain ⟨a, b, d, e⟩ := numS_ok s (s.size + 1) i 0 (Int.le_refl _) (by decide)
 unfold numA
 refine ⟨?_, ?_, d, e hi⟩
 all_goals
  simp only
  split <;> omega
theorem qhc (s : ByteArray) (hs : s.size ≤ 100000) : ∀ (m i f : Nat) (n : Int), 0 ≤ n → n ≤ 256 → s.size < m + i → i ≤ s.size → ∀ j, qb7.l0 (m + j) s (i : Int) n (f : Int) = some ((if (numS s m i n).2 = f then -1 else (numS s m i n).1), ((numS s m i n).2 : Int))
 | 0, i, f, n, _, _, h, hi, j => by omega
 | m + 1, i, f, n, h0, h1, h, hi, j => by
  rw [Nat.add_right_comm, qb7.l0, numS]
  by_cases hlt : i < s.size
  ·rw [if_pos (by omega), if_pos (by omega)]
   by_cases c1 : 48 ≤ bt s (i : Int)
   ·rw [if_pos c1]
    by_cases c2 : bt s (i : Int) ≤ 57
    ·have hd : qel s i = true := by
      unfold qel
      rw [decide_eq_true hlt, decide_eq_true c1, decide_eq_true c2]
      rfl
     have e1 : wrap64 ((i : Int) + 1) = ((i + 1 : Nat) : Int) := wrap_one (by omega)
     have e2 : wrap64 (wrap64 (10 * n) + (bt s (i : Int) - 48) % 256) = 10 * n + (bt s (i : Int) - 48) := by
      rw [qcb (x := 10 * n) (by omega) (by omega), Int.emod_eq_of_lt (by omega) (by omega), qcb (by omega) (by omega)]
     have e3 : mn (10 * n + (bt s (i : Int) - 48)) 256 = min (10 * n + (bt s (i : Int) - 48)) 256 := by
      unfold mn
      omega
     rw [if_pos c2, if_pos hd, e1, e2, e3]
     exact qhc s hs m (i + 1) f _ (by omega) (by omega) (by omega) (by omega) j
    ·have hd : ¬ qel s i = true := by
      unfold qel
      rw [decide_eq_false c2, Bool.and_false]
      decide
     rw [if_neg c2, if_neg hd]
     by_cases c : i = f
     ·rw [if_pos (by omega), if_pos c]
     ·rw [if_neg (by omega), if_neg c]
   ·have hd : ¬ qel s i = true := by
     unfold qel
     rw [decide_eq_false c1, Bool.and_false, Bool.false_and]
     decide
    rw [if_neg c1, if_neg hd]
    by_cases c : i = f
    ·rw [if_pos (by omega), if_pos c]
    ·rw [if_neg (by omega), if_neg c]
  ·have hd : ¬ qel s i = true := by
    unfold qel
    simp [hlt]
   rw [if_neg (by omega), if_neg hd]
   by_cases c : i = f
   ·rw [if_pos (by omega), if_pos c]
   ·rw [if_neg (by omega), if_neg c]
theorem number_eq (s : ByteArray) (hs : s.size ≤ 100000) {i : Nat} (hi : i ≤ s.size) (j : Nat) : qb7.f (s.size + 1 + j) s (i : Int) = some ((numA s i).1, ((numA s i).2 : Int)) := by
 unfold qb7.f numA
 exact qhc s hs (s.size + 1) i i 0 (Int.le_refl _) (by decide) (by omega) hi j
def qd4 (s : ByteArray) (i : Nat) (x y : Int) : Bool := decide (i + 2 ≤ s.size) && (bt s (i : Int) == x) && (bt s ((i + 1 : Nat) : Int) == y)
theorem two_ext {s : ByteArray} {i : Nat} (h : i + 2 ≤ s.size) (x y : UInt8) : ((s.extract i (i + 2)).toList = [x, y]) ↔ qd4 s i (x.toNat : Int) (y.toNat : Int) = true := by
 obtain ⟨b, c, l, hl⟩ := two_of h
 obtain ⟨_, h1, hl2⟩ := qfz hl
 obtain ⟨_, h2, _⟩ := qfz hl2
 rw [extract_toList, hl]
 unfold qd4
 rw [decide_eq_true h, h1, h2, show i + 2 - i = 2 by omega]
 simp only [List.take_succ_cons, List.take_zero, List.cons.injEq, and_true, Bool.true_and, Bool.and_eq_true, beq_iff_eq, byte_lit]
def itvA (s : ByteArray) (i : Nat) : Option (Int × Int × Nat) :=
 let r := numA s i
 let q := if r.2 < s.size ∧ bt s (r.2 : Int) = 44 then numA s (r.2 + 1) else r
 if r.1 < 0 ∨ 255 < r.1 ∨ 255 < q.1 ∨ (0 ≤ q.1 ∧ q.1 < r.1) then none else if qd4 s q.2 92 125 = true then some (r.1, q.1, q.2 + 2) else none
def itvR : Option (Int × Int × Nat) → Int × Int × Int × Bool
 | none => (0, 0, 0, false)
 | some (a, b, n) => (a, b, (n : Int), true)
theorem qgv (s : ByteArray) (hs : s.size ≤ 100000) {a : Nat} (ha : a ≤ s.size) (lo hi : Int) (b : Bool) (k : Nat) : qan.j2 (k + 1) s (a : Int) lo hi b = some (itvR (if b = true then none else if qd4 s a 92 125 = true then some (lo, hi, a + 2) else none)) := by
 rw [qan.j2]
 by_cases hb : b = true
 ·rw [if_pos hb, if_pos hb]
  rfl
 ·rw [if_neg hb, if_neg hb, qgd (by omega)]
  by_cases h2 : a + 2 ≤ s.size
  ·have e := two_ext h2 92 125
   rw [show ((92 : UInt8).toNat : Int) = 92 from rfl, show ((125 : UInt8).toNat : Int) = 125 from rfl] at e
   rw [if_neg (by omega), if_pos (by omega), if_pos (by omega), if_pos (by omega), show ((a : Int)).toNat = a by omega, show (((a + 2 : Nat) : Int)).toNat = a + 2 by omega]
   by_cases c : qd4 s a 92 125 = true
   ·rw [if_pos (e.2 c), if_pos c]
    rfl
   ·rw [if_neg (fun h => c (e.1 h)), if_neg c]
    rfl
  ·have c : ¬ qd4 s a 92 125 = true := by
    unfold qd4
    simp [h2]
   rw [if_pos (by omega), if_neg c]
   rfl
theorem itv_j1 (s : ByteArray) (hs : s.size ≤ 100000) {a : Nat} (ha : a ≤ s.size) (lo hi : Int) (k : Nat) : qan.j1 (k + 2) s (a : Int) lo hi = some (itvR (if lo < 0 ∨ 255 < lo ∨ 255 < hi ∨ (0 ≤ hi ∧ hi < lo) then none else if qd4 s a 92 125 = true then some (lo, hi, a + 2) else none)) := by
 rw [qan.j1]
 by_cases c1 : lo < 0
 ·rw [if_pos c1, qgv s hs ha, if_pos rfl, if_pos (.inl c1)]
 rw [if_neg c1]
 by_cases c2 : 255 < lo
 ·rw [if_pos c2, qgv s hs ha, if_pos rfl, if_pos (.inr (.inl c2))]
 rw [if_neg (by omega)]
 by_cases c3 : 255 < hi
 ·rw [if_pos c3, qgv s hs ha, if_pos rfl, if_pos (.inr (.inr (.inl c3)))]
 rw [if_neg (by omega)]
 by_cases c4 : 0 ≤ hi
 ·rw [if_pos c4, qgv s hs ha]
  by_cases c5 : hi < lo
  ·rw [decide_eq_true c5, if_pos rfl, if_pos (.inr (.inr (.inr ⟨c4, c5⟩)))]
  ·have hn : ¬ (lo < 0 ∨ 255 < lo ∨ 255 < hi ∨ (0 ≤ hi ∧ hi < lo)) := by omega
   rw [decide_eq_false c5, if_neg hn, if_neg (by decide)]
 ·have hn : ¬ (lo < 0 ∨ 255 < lo ∨ 255 < hi ∨ (0 ≤ hi ∧ hi < lo)) := by omega
  rw [if_neg c4, qgv s hs ha, if_neg hn, if_neg (by decide)]
theorem interval_eq (s : ByteArray) (hs : s.size ≤ 100000) {i : Nat} (hi : i ≤ s.size) (j : Nat) : qan.f (s.size + 4 + j) s (i : Int) = some (itvR (itvA s i)) := by
 obtain ⟨h1, h2, h3, h4⟩ := qh0 s i hi
 unfold qan.f itvA
 rw [show s.size + 4 + j = s.size + 1 + (j + 3) by omega, number_eq s hs hi, Option.bind_some]
 simp only
 generalize numA s i = r at *
 by_cases c : r.2 < s.size
 ·rw [if_pos (by omega), if_pos (by omega), show s.size + 1 + (j + 3) = s.size + 1 + (j + 2) + 1 by omega, qan.j0]
  by_cases c2 : bt s (r.2 : Int) = 44
  ·obtain ⟨k1, k2, k3, k4⟩ := qh0 s (r.2 + 1) c
   have hc : r.2 < s.size ∧ bt s (r.2 : Int) = 44 := ⟨c, c2⟩
   have hb : (bt s (r.2 : Int) == 44) = true := by rw [c2]; rfl
   rw [if_pos hc, hb, if_pos rfl, wrap_one (by omega), number_eq s hs c, Option.bind_some, show s.size + 1 + (j + 2) = s.size + 1 + j + 2 by omega]
   exact itv_j1 s hs k4 _ _ _
  ·have hc : ¬ (r.2 < s.size ∧ bt s (r.2 : Int) = 44) := fun h => c2 h.2
   have hb : (bt s (r.2 : Int) == 44) = false := by simpa using c2
   rw [if_neg hc, hb, if_neg (by decide), show s.size + 1 + (j + 2) = s.size + 1 + j + 2 by omega]
   exact itv_j1 s hs h4 _ _ _
 ·have hc : ¬ (r.2 < s.size ∧ bt s (r.2 : Int) = 44) := fun h => c h.1
  rw [if_neg (by omega), if_neg hc, show s.size + 1 + (j + 3) = s.size + j + 1 + 2 + 1 by omega, qan.j0, if_neg (by decide)]
  exact itv_j1 s hs h4 _ _ _
theorem itvA_ok {s : ByteArray} {i : Nat} (hi : i ≤ s.size) {lo hi_ : Int} {n : Nat} (h : itvA s i = some (lo, hi_, n)) : 0 ≤ lo ∧ lo ≤ 255 ∧ (hi_ = -1 ∨ lo ≤ hi_ ∧ hi_ ≤ 255) ∧ i + 2 ≤ n ∧ n ≤ s.size := by
 obtain ⟨h1, h2, h3, h4⟩ := qh0 s i hi
 unfold itvA at h
 simp only at h
 generalize numA s i = r at *
 have hq : ∀ q : Int × Nat, q = (if r.2 < s.size ∧ bt s (r.2 : Int) = 44 then numA s (r.2 + 1) else r) → -1 ≤ q.1 ∧ i ≤ q.2 := by
  intro q e
  by_cases c : r.2 < s.size ∧ bt s (r.2 : Int) = 44
  ·rw [if_pos c] at e
   obtain ⟨k1, k2, k3, k4⟩ := qh0 s (r.2 + 1) c.1
   rw [e]
   exact ⟨k1, by omega⟩
  ·rw [if_neg c] at e
   rw [e]
   exact ⟨h1, h3⟩
 obtain ⟨q1, q2⟩ := hq _ rfl
 generalize (if r.2 < s.size ∧ bt s (r.2 : Int) = 44 then numA s (r.2 + 1) else r) = q at *
 by_cases c : r.1 < 0 ∨ 255 < r.1 ∨ 255 < q.1 ∨ (0 ≤ q.1 ∧ q.1 < r.1)
 ·rw [if_pos c] at h
  cases h
 rw [if_neg c] at h
 by_cases c2 : qd4 s q.2 92 125 = true
 ·rw [if_pos c2] at h
  have e := Option.some.inj h
  have e1 := congrArg Prod.fst e
  have e2 := congrArg (fun x => x.2.1) e
  have e3 := congrArg (fun x => x.2.2) e
  simp only at e1 e2 e3
  have hz : q.2 + 2 ≤ s.size := by
   unfold qd4 at c2
   simp only [Bool.and_eq_true, decide_eq_true_eq] at c2
   exact c2.1.1
  omega
 ·rw [if_neg c2] at h
  cases h
def tk (k a : Int) (lo hi e : Int) : Tok := ⟨k, a, 0, 0, 0, 0, lo, hi, e⟩
def tkB (a : Int) (s : S4) : Tok := ⟨0, a, s.1, s.2.1, s.2.2.1, s.2.2.2, 0, 0, 0⟩
def oneS (c : Int) : S4 := ofS (strOfNums [c])
def qfr (c : Int) : Bool := (decide (48 ≤ c) && decide (c ≤ 57)) || (decide (97 ≤ c) && decide (c ≤ 122)) || (decide (65 ≤ c) && decide (c ≤ 90))
def escA (s : ByteArray) (i : Nat) (b : Bool) : Tok × Nat :=
 let c := bt s ((i + 1 : Nat) : Int)
 if i + 1 = s.size then (tk 7 i 0 0 6, i)
 else if c = 40 then (tk 3 i 0 0 0, i + 2)
 else if c = 41 then (tk 4 i 0 0 0, i + 2)
 else if c = 123 then (match itvA s (i + 2) with
  | some (lo, hi, n) => if b = true then (tk 7 i 0 0 9, i) else (tk 5 i lo hi 0, n)
  | none => (tk 7 i 0 0 9, i))
 else if c = 125 then (tk 7 i 0 0 9, i)
 else if c = 110 then (tkB i (oneS 10), i + 2)
 else if 49 ≤ c ∧ c ≤ 57 then (tk 6 i (c - 48) 0 0, i + 2)
 else if qfr c = true then (tk 7 i 0 0 12, i)
 else (tkB i (oneS c), i + 2)
def rdT (s : ByteArray) (i : Nat) (f b : Bool) : Tok × Nat :=
 let c := bt s (i : Int)
 if c = 92 then escA s i b
 else if c = 91 then (match qbt.f s (i : Int) with
  | some r => if r.2.2.2.2.2 = 0 then (tkB i (r.1, r.2.1, r.2.2.1, r.2.2.2.1), r.2.2.2.2.1.toNat) else (tk 7 i 0 0 r.2.2.2.2.2, i)
  | none => (tk 7 i 0 0 0, i))
 else if c = 46 then (tkB i (notS qcq), i + 1)
 else if c = 42 ∧ b = false then (tk 5 i 0 (-1) 0, i + 1)
 else if c = 94 ∧ f = true then (tk 1 i 0 0 0, i + 1)
 else if c = 36 ∧ (i + 1 = s.size ∨ i + 2 < s.size ∧ qd4 s (i + 1) 92 41 = true) then (tk 2 i 0 0 0, i + 1)
 else (tkB i (oneS c), i + 1)
def expT (r : Tok × Nat) : Int × Int × Int × Int × Int × Int × Int × Int × Int × Int := (r.1.k, r.1.a, r.1.s0, r.1.s1, r.1.s2, r.1.s3, r.1.lo, r.1.hi, r.1.e, (r.2 : Int))
theorem strOf_size (c : Int) : (strOfNums [c]).size = 1 := by
 rw [qbj]
 rfl
theorem qj4 (a c : Int) : qcl.f a c = some (0, a, (oneS c).1, (oneS c).2.1, (oneS c).2.2.1, (oneS c).2.2.2, 0, 0, 0) := by
 unfold qcl.f
 rw [bOf_eq (by rw [strOf_size]; decide), Option.bind_some]
 rfl
theorem alnum_all : ((List.range 256).all fun n => qdp.f (n : Int) == some (qfr (n : Int))) = true := by kernel_rfl
theorem alnum_eq {c : Int} (h0 : 0 ≤ c) (h1 : c < 256) : qdp.f c = some (qfr c) := by
 have h := List.all_eq_true.1 alnum_all c.toNat (List.mem_range.2 (by omega))
 rw [show ((c.toNat : Nat) : Int) = c by omega] at h
 exact eq_of_beq h
theorem bt_ok_ (s : ByteArray) (p : Int) : 0 ≤ bt s p ∧ bt s p < 256 := by have := qhi s p; omega
theorem esc_j0 (s : ByteArray) {i : Nat} (hi : i ≤ 100000) {c : Int} (h0 : 0 ≤ c) (h1 : c < 256) (b : Bool) (k : Nat) : qb6.j0 (k + 1) (i : Int) c b = some (expT (if b = true then (tk 6 i ((c - 48) % 256) 0 0, i + 2) else if qfr c = true then (tk 7 i 0 0 12, i) else (tkB i (oneS c), i + 2))) := by
 rw [qb6.j0, alnum_eq h0 h1, Option.bind_some, qgd (by omega)]
 by_cases hb : b = true
 ·rw [if_pos hb, if_pos hb]
  rfl
 rw [if_neg hb, if_neg hb]
 by_cases ha : qfr c = true
 ·rw [if_pos ha, if_pos ha]
  rfl
 ·rw [if_neg ha, if_neg ha, qj4, Option.bind_some]
  rfl
theorem esc_eq (s : ByteArray) (hs : s.size ≤ 100000) {i : Nat} (hi : i < s.size) (b : Bool) (j : Nat) : qb6.f (s.size + 5 + j) s (i : Int) b = some (expT (escA s i b)) := by
 have hc := bt_ok_ s ((i + 1 : Nat) : Int)
 unfold qb6.f escA
 rw [wrap_one (by omega), qgd (by omega)]
 simp only
 generalize bt s ((i + 1 : Nat) : Int) = c at hc ⊢
 by_cases h1 : i + 1 = s.size
 ·rw [if_pos (by omega), if_pos h1]
  rfl
 rw [if_neg (by omega), if_neg h1, if_pos (by omega), if_pos (by omega)]
 by_cases c40 : c = 40
 ·rw [if_pos c40, if_pos c40]
  rfl
 rw [if_neg c40, if_neg c40]
 by_cases c41 : c = 41
 ·rw [if_pos c41, if_pos c41]
  rfl
 rw [if_neg c41, if_neg c41]
 by_cases c123 : c = 123
 ·rw [if_pos c123, if_pos c123, show s.size + 5 + j = s.size + 4 + (j + 1) by omega, interval_eq s hs (by omega), Option.bind_some]
  cases itvA s (i + 2) with
  | none => rfl
  | some r =>
   obtain ⟨lo, h, n⟩ := r
   show (if true = true then _ else _) = _
   rw [if_pos rfl]
   by_cases hb : b = true
   ·rw [if_pos hb]
    simp only
    rw [if_pos hb]
    rfl
   ·rw [if_neg hb]
    simp only
    rw [if_neg hb]
    rfl
 rw [if_neg c123, if_neg c123]
 by_cases c125 : c = 125
 ·rw [if_pos c125, if_pos c125]
  rfl
 rw [if_neg c125, if_neg c125]
 by_cases c110 : c = 110
 ·rw [if_pos c110, if_pos c110, qj4, Option.bind_some]
  rfl
 rw [if_neg c110, if_neg c110, show s.size + 5 + j = s.size + 4 + j + 1 by omega]
 by_cases c49 : 49 ≤ c
 ·rw [if_pos c49, esc_j0 s (by omega) hc.1 hc.2]
  by_cases c57 : c ≤ 57
  ·rw [decide_eq_true c57, if_pos rfl, if_pos ⟨c49, c57⟩, Int.emod_eq_of_lt (by omega) (by omega)]
  ·have hn : ¬ (49 ≤ c ∧ c ≤ 57) := fun h => c57 h.2
   rw [decide_eq_false c57, if_neg hn, if_neg (by decide)]
 ·have hn : ¬ (49 ≤ c ∧ c ≤ 57) := fun h => c49 h.1
  rw [if_neg c49, esc_j0 s (by omega) hc.1 hc.2, if_neg hn, if_neg (by decide)]
end Go.Proofs.Ytcmipoicnonaeaa.F
end
section
namespace Go.Proofs.Ytcmipoicnonaeaa.F
open Go.RowKit Go.Proofs.YtcmipoicnonaeaaW.PrintWords Go.Proofs.YtcmipoicnonaeaaW.PrintLast Go.Proofs.YtcmipoicnonaeaaW.PrintMore
attribute [local go_sem] qbx qbv qcc qca qbl qbk qbw qbu
set_option linter.unusedVariables false
set_option linter.unusedSimpArgs false
end Go.Proofs.Ytcmipoicnonaeaa.F
end
section
namespace Go.Proofs.Ytcmipoicnonaeaa.F
open Go.RowKit Go.Proofs.YtcmipoicnonaeaaW.PrintWords Go.Proofs.YtcmipoicnonaeaaW.PrintLast Go.Proofs.YtcmipoicnonaeaaW.PrintMore
attribute [local go_sem] qbx qbv qcc qca qbl qbk qbw qbu
set_option linter.unusedVariables false
set_option linter.unusedSimpArgs false
def qej.f (a0 : ByteArray) : Option (ByteArray) := if a0.toList = ([100, 105, 103, 105, 116] : List UInt8) then (some (⟨#[48, 49, 50, 51, 52, 53, 54, 55, 56, 57]⟩ : ByteArray)) else (if a0.toList = ([117, 112, 112, 101, 114] : List UInt8) then (some (⟨#[65, 66, 67, 68, 69, 70, 71, 72, 73, 74, 75, 76, 77, 78, 79, 80, 81, 82, 83, 84, 85, 86, 87, 88, 89, 90]⟩ : ByteArray)) else (if a0.toList = ([108, 111, 119, 101, 114] : List UInt8) then (some (⟨#[97, 98, 99, 100, 101, 102, 103, 104, 105, 106, 107, 108, 109, 110, 111, 112, 113, 114, 115, 116, 117, 118, 119, 120, 121, 122]⟩ : ByteArray)) else (if a0.toList = ([97, 108, 112, 104, 97] : List UInt8) then (some (⟨#[65, 66, 67, 68, 69, 70, 71, 72, 73, 74, 75, 76, 77, 78, 79, 80, 81, 82, 83, 84, 85, 86, 87, 88, 89, 90, 97, 98, 99, 100, 101, 102, 103, 104, 105, 106, 107, 108, 109, 110, 111, 112, 113, 114, 115, 116, 117, 118, 119, 120, 121, 122]⟩ : ByteArray)) else (if a0.toList = ([97, 108, 110, 117, 109] : List UInt8) then (some (⟨#[65, 66, 67, 68, 69, 70, 71, 72, 73, 74, 75, 76, 77, 78, 79, 80, 81, 82, 83, 84, 85, 86, 87, 88, 89, 90, 97, 98, 99, 100, 101, 102, 103, 104, 105, 106, 107, 108, 109, 110, 111, 112, 113, 114, 115, 116, 117, 118, 119, 120, 121, 122, 48, 49, 50, 51, 52, 53, 54, 55, 56, 57]⟩ : ByteArray)) else (if a0.toList = ([120, 100, 105, 103, 105, 116] : List UInt8) then (some (⟨#[48, 49, 50, 51, 52, 53, 54, 55, 56, 57, 65, 66, 67, 68, 69, 70, 97, 98, 99, 100, 101, 102]⟩ : ByteArray)) else (if a0.toList = ([98, 108, 97, 110, 107] : List UInt8) then (some (⟨#[32, 9]⟩ : ByteArray)) else (if a0.toList = ([115, 112, 97, 99, 101] : List UInt8) then (some (⟨#[32, 9, 10, 11, 12, 13]⟩ : ByteArray)) else (if a0.toList = ([112, 117, 110, 99, 116] : List UInt8) then (some (⟨#[33, 34, 35, 36, 37, 38, 39, 40, 41, 42, 43, 44, 45, 46, 47, 58, 59, 60, 61, 62, 63, 64, 91, 92, 93, 94, 95, 96, 123, 124, 125, 126]⟩ : ByteArray)) else (if a0.toList = ([103, 114, 97, 112, 104] : List UInt8) then (some (⟨#[33, 34, 35, 36, 37, 38, 39, 40, 41, 42, 43, 44, 45, 46, 47, 58, 59, 60, 61, 62, 63, 64, 91, 92, 93, 94, 95, 96, 123, 124, 125, 126, 65, 66, 67, 68, 69, 70, 71, 72, 73, 74, 75, 76, 77, 78, 79, 80, 81, 82, 83, 84, 85, 86, 87, 88, 89, 90, 97, 98, 99, 100, 101, 102, 103, 104, 105, 106, 107, 108, 109, 110, 111, 112, 113, 114, 115, 116, 117, 118, 119, 120, 121, 122, 48, 49, 50, 51, 52, 53, 54, 55, 56, 57]⟩ : ByteArray)) else (if a0.toList = ([112, 114, 105, 110, 116] : List UInt8) then (some (⟨#[33, 34, 35, 36, 37, 38, 39, 40, 41, 42, 43, 44, 45, 46, 47, 58, 59, 60, 61, 62, 63, 64, 91, 92, 93, 94, 95, 96, 123, 124, 125, 126, 65, 66, 67, 68, 69, 70, 71, 72, 73, 74, 75, 76, 77, 78, 79, 80, 81, 82, 83, 84, 85, 86, 87, 88, 89, 90, 97, 98, 99, 100, 101, 102, 103, 104, 105, 106, 107, 108, 109, 110, 111, 112, 113, 114, 115, 116, 117, 118, 119, 120, 121, 122, 48, 49, 50, 51, 52, 53, 54, 55, 56, 57, 32]⟩ : ByteArray)) else (some (⟨#[]⟩ : ByteArray))))))))))))
end Go.Proofs.Ytcmipoicnonaeaa.F
end
section
namespace Go.Proofs.Ytcmipoicnonaeaa.F
open Go.RowKit Go.Proofs.YtcmipoicnonaeaaW.PrintWords Go.Proofs.YtcmipoicnonaeaaW.PrintLast Go.Proofs.YtcmipoicnonaeaaW.PrintMore
attribute [local go_sem] qbx qbv qcc qca qbl qbk qbw qbu
set_option linter.unusedVariables false
set_option linter.unusedSimpArgs false
def qcn.f (k : Nat) (a0_0 : Int) (a0_1 : Int) (a0_2 : Int) (a0_3 : Int) : Option (Int) := (qb4.f k a0_0 a0_1 a0_2 a0_3).bind fun t439 => (some (t439.length : Int))
theorem qcn.mono : ∀ a0 a1 a2 a3 k, LeO (qcn.f k a0 a1 a2 a3) (qcn.f (k + 1) a0 a1 a2 a3) := by
  intro a0 a1 a2 a3 k
  unfold qcn.f
  repeat' first
      | (with_reducible exact qb4.mono _ _ _ _ _)
      | (with_reducible exact LeO.refl _)
      | (with_reducible exact LeO.none _)
      | (with_reducible refine LeO.ite ?_ ?_)
      | (with_reducible refine LeO.bind ?_ (fun _ => ?_))
      | exact qb4.mono _ _ _ _ _
      | exact LeO.none _
      | refine LeO.ite ?_ ?_
      | refine LeO.bind ?_ (fun _ => ?_)
end Go.Proofs.Ytcmipoicnonaeaa.F
end
section
namespace Go.Proofs.Ytcmipoicnonaeaa.F
open Go.RowKit Go.Proofs.YtcmipoicnonaeaaW.PrintWords Go.Proofs.YtcmipoicnonaeaaW.PrintLast Go.Proofs.YtcmipoicnonaeaaW.PrintMore
attribute [local go_sem] qbx qbv qcc qca qbl qbk qbw qbu
set_option linter.unusedVariables false
set_option linter.unusedSimpArgs false
def qci.f (k : Nat) (a0 : ByteArray) : Option (Int × Int × Int × Int × Int) := if a0.toList = ([99, 110, 116, 114, 108] : List UInt8) then ((qb9.f k 0 31).bind fun bt443 => ((qcm.f bt443.1 bt443.2.1 bt443.2.2.1 bt443.2.2.2.1 127).bind fun bt449 => (some (bt449.1, bt449.2.1, bt449.2.2.1, bt449.2.2.2, 0)))) else ((qej.f a0).bind fun t453 => ((qb2.f k t453).bind fun bt454 => ((qcn.f k bt454.1 bt454.2.1 bt454.2.2.1 bt454.2.2.2).bind fun t459 => (if t459 = 0 then (some (bt454.1, bt454.2.1, bt454.2.2.1, bt454.2.2.2, 8)) else (some (bt454.1, bt454.2.1, bt454.2.2.1, bt454.2.2.2, 0))))))
theorem qci.mono : ∀ a0 k, LeO (qci.f k a0) (qci.f (k + 1) a0) := by
 intro a0 k
 unfold qci.f
 repeat' first
   | (with_reducible exact qcn.mono _ _ _ _ _)
   | (with_reducible exact qb9.mono _ _ _)
   | (with_reducible exact qb2.mono _ _)
   | (with_reducible exact LeO.refl _)
   | (with_reducible exact LeO.none _)
   | (with_reducible refine LeO.ite ?_ ?_)
   | (with_reducible refine LeO.bind ?_ (fun _ => ?_))
   | exact qcn.mono _ _ _ _ _
   | exact qb9.mono _ _ _
   | exact qb2.mono _ _
   | exact LeO.none _
   | refine LeO.ite ?_ ?_
   | refine LeO.bind ?_ (fun _ => ?_)
end Go.Proofs.Ytcmipoicnonaeaa.F
end
section
namespace Go.Proofs.Ytcmipoicnonaeaa.F
open Go.RowKit Go.Proofs.YtcmipoicnonaeaaW.PrintWords Go.Proofs.YtcmipoicnonaeaaW.PrintLast Go.Proofs.YtcmipoicnonaeaaW.PrintMore
attribute [local go_sem] qbx qbv qcc qca qbl qbk qbw qbu
set_option linter.unusedVariables false
set_option linter.unusedSimpArgs false
end Go.Proofs.Ytcmipoicnonaeaa.F
end
section
namespace Go.Proofs.Ytcmipoicnonaeaa.F
open Go.RowKit Go.Proofs.YtcmipoicnonaeaaW.PrintWords Go.Proofs.YtcmipoicnonaeaaW.PrintLast Go.Proofs.YtcmipoicnonaeaaW.PrintMore
attribute [local go_sem] qbx qbv qcc qca qbl qbk qbw qbu
set_option linter.unusedVariables false
set_option linter.unusedSimpArgs false
end Go.Proofs.Ytcmipoicnonaeaa.F
end
section
namespace Go.Proofs.Ytcmipoicnonaeaa.F
open Go.RowKit Go.Proofs.YtcmipoicnonaeaaW.PrintWords Go.Proofs.YtcmipoicnonaeaaW.PrintLast Go.Proofs.YtcmipoicnonaeaaW.PrintMore
attribute [local go_sem] qbx qbv qcc qca qbl qbk qbw qbu
set_option linter.unusedVariables false
set_option linter.unusedSimpArgs false
end Go.Proofs.Ytcmipoicnonaeaa.F
end
section
namespace Go.Proofs.Ytcmipoicnonaeaa.F
open Go.RowKit Go.Proofs.YtcmipoicnonaeaaW.PrintWords
set_option linter.unusedVariables false
set_option linter.unusedSimpArgs false
theorem qde {s : ByteArray} {i : Nat} (h : i < s.size) : bt s (i : Int) = (s[i].toNat : Int) := (qbs s i (by simpa using h)).symm
end Go.Proofs.Ytcmipoicnonaeaa.F
end
section
namespace Go.Proofs.Ytcmipoicnonaeaa.F
open Go.RowKit Go.Proofs.YtcmipoicnonaeaaW.PrintWords
set_option linter.unusedVariables false
set_option linter.unusedSimpArgs false
def qgi : List (List UInt8) := [[97, 108, 112, 104, 97], [100, 105, 103, 105, 116], [97, 108, 110, 117, 109], [117, 112, 112, 101, 114], [108, 111, 119, 101, 114], [115, 112, 97, 99, 101], [98, 108, 97, 110, 107], [103, 114, 97, 112, 104], [112, 114, 105, 110, 116], [112, 117, 110, 99, 116], [99, 110, 116, 114, 108], [120, 100, 105, 103, 105, 116]]
def okB (s : S4) : Bool := decide (0 ≤ s.1 ∧ s.1 < 18446744073709551616) && decide (0 ≤ s.2.1 ∧ s.2.1 < 18446744073709551616) && decide (0 ≤ s.2.2.1 ∧ s.2.2.1 < 18446744073709551616) && decide (0 ≤ s.2.2.2 ∧ s.2.2.2 < 18446744073709551616)
theorem okB_ok {s : S4} (h : okB s = true) : okS s := by
  simp only [okB, Bool.and_eq_true, decide_eq_true_eq] at h
  exact ⟨h.1.1.1, h.1.1.2, h.1.2, h.2⟩
def classOne (n : List UInt8) : Bool := match qcx.f ⟨n.toArray⟩, qci.f 300 ⟨n.toArray⟩ with
  | some x, some y => x == y && x.2.2.2.2 == 0 && okB (x.1, x.2.1, x.2.2.1, x.2.2.2.1)
  | _, _ => false
theorem class_all : qgi.all classOne = true := by kernel_rfl
theorem mono_up {α : Type} {f : Nat → Option α} (hm : ∀ k, LeO (f k) (f (k + 1))) {k : Nat} {r : α} (h : f k = some r) (j : Nat) : f (k + j) = some r := by
  induction j with
  | zero => exact h
  | succ j ih => exact hm (k + j) r ih
theorem class_eq (n : ByteArray) : ∃ (s : S4) (e : Int), okS s ∧ qcx.f n = some (s.1, s.2.1, s.2.2.1, s.2.2.2, e) ∧ ∀ j, qci.f (300 + j) n = some (s.1, s.2.1, s.2.2.1, s.2.2.2, e) := by
  have hn : n = ⟨n.toList.toArray⟩ := by rw [Lib.toList_data]
  by_cases hm : n.toList ∈ qgi
  · have h := List.all_eq_true.1 class_all _ hm
    unfold classOne at h
    rw [← hn] at h
    split at h
    · rename_i x y hx hy
      simp only [Bool.and_eq_true, beq_iff_eq] at h
      obtain ⟨⟨hxy, he⟩, ho⟩ := h
      subst hxy
      exact ⟨(x.1, x.2.1, x.2.2.1, x.2.2.2.1), x.2.2.2.2, okB_ok ho, hx, fun j => mono_up (qci.mono n) hy j⟩
    · cases h
  · simp only [qgi, List.mem_cons, List.not_mem_nil, or_false, not_or] at hm
    obtain ⟨h1, h2, h3, h4, h5, h6, h7, h8, h9, h10, h11, h12⟩ := hm
    refine ⟨qcq, 8, qe6, ?_, fun j => ?_⟩
    · unfold qcx.f
      rw [show 256 = 255 + 1 from rfl, qfh]
      have : qbn.f 20 n 0 = some (false, false) := by
        simp [qbn.f, qbn.j0, qbn.j1, h1, h2, h3, h4, h5, h6, h7, h8, h9, h10, h11, h12]
      rw [this]
      rfl
    · unfold qci.f
      rw [if_neg h11]
      have ht : qej.f n = some ⟨#[]⟩ := by
        simp [qej.f, h1, h2, h3, h4, h5, h6, h7, h8, h9, h10, h12]
      rw [ht, Option.bind_some]
      have ho := Of_eq (a := ⟨#[]⟩) (by decide) (299 + j)
      rw [show (⟨#[]⟩ : ByteArray).size + 1 + (299 + j) = 300 + j by show 0 + 1 + (299 + j) = 300 + j; omega] at ho
      rw [ho, Option.bind_some]
      unfold qcn.f
      have hz : ofS ⟨#[]⟩ = qcq := rfl
      have hm := Members_eq qe6 (43 + j)
      rw [show 257 + (43 + j) = 300 + j by omega] at hm
      have hmn : memN qcq = [] := List.filter_eq_nil_iff.2 (fun c hc => by rw [has_zero]; decide)
      rw [hmn] at hm
      rw [hz, hm]
      rfl
def qf2 (s : ByteArray) (p : Nat) : Bool := decide (p < s.size) && (bt s (p : Int) == 45) && (decide (s.size ≤ p + 1) || (bt s ((p + 1 : Nat) : Int) != 93))
theorem dash_b (s : ByteArray) (hs : s.size < 4294967296) (p : Nat) (e : Int) : qb0.f s (p : Int) e = some (qf2 s p, s, (p : Int), e) := by
  unfold qb0.f qf2
  by_cases h : p < s.size
  · rw [if_pos (by omega), if_pos (by omega), qdj (by omega)]
    by_cases h1 : bt s (p : Int) = 45
    · rw [if_pos h1]
      by_cases h2 : s.size ≤ p + 1
      · rw [if_pos (by omega)]
        simp [h, h1, h2]
      · rw [if_neg (by omega), if_pos (by omega), if_pos (by omega)]
        simp [h, h1, h2]
    · rw [if_neg h1]
      simp [h1]
  · rw [if_neg (by omega)]
    simp [h]
theorem qir : ∀ (n : Nat) (b : Nat) (s : S4), qe5 n (b : Int) s = addL s (List.range' b n)
  | 0, b, s => rfl
  | n + 1, b, s => by
    rw [qe5, List.range'_succ, show (b : Int) + 1 = ((b + 1 : Nat) : Int) by omega, qir n (b + 1)]
    rfl
end Go.Proofs.Ytcmipoicnonaeaa.F
end
section
namespace Go.Proofs.Ytcmipoicnonaeaa.F
open Go.RowKit Go.Proofs.YtcmipoicnonaeaaW.PrintWords
set_option linter.unusedVariables false
set_option linter.unusedSimpArgs false
theorem ext_drop (s : ByteArray) (a : Nat) : (s.extract a s.size).data.toList = s.data.toList.drop a := by
 rw [Lib.extract_data, List.take_of_length_le (by simp)]
theorem u8_of {m : Int} (h : 0 ≤ m ∧ m < 256) : ((m.toNat.toUInt8).toNat : Int) = m := by
 simp only [Nat.toUInt8, UInt8.toNat_ofNat']
 omega
theorem nums2 {m : Int} (h : 0 ≤ m ∧ m < 256) : (strOfNums [m, 93]).data.toList = [m.toNat.toUInt8, 93] := by
 have := qee [m.toNat.toUInt8, 93]
 rw [show bts [m.toNat.toUInt8, 93] = [m, 93] by simp only [bts, List.map_cons, List.map_nil, u8_of h]; rfl] at this
 exact this
theorem nums1 {m : Int} (h : 0 ≤ m ∧ m < 256) : (strOfNums [m]).data.toList = [m.toNat.toUInt8] := by
 have := qee [m.toNat.toUInt8]
 rw [show bts [m.toNat.toUInt8] = [m] by simp only [bts, List.map_cons, List.map_nil, u8_of h]] at this
 exact this
theorem bt_ok (s : ByteArray) (p : Int) : 0 ≤ bt s p ∧ bt s p < 256 := by have := qhi s p; omega
theorem mark_all : ((List.range 256).all fun n => decide (Lib.indexByte [46, 61, 58] n.toUInt8 < 0) == !(n == 46 || n == 61 || n == 58)) = true := by kernel_rfl
theorem mark_eq {m : Int} (h : 0 ≤ m ∧ m < 256) : decide (Lib.indexByte [46, 61, 58] m.toNat.toUInt8 < 0) = !(m == 46 || m == 61 || m == 58) := by
 have := beq_iff_eq.1 (List.all_eq_true.1 mark_all m.toNat (List.mem_range.2 (by omega)))
 rw [this]
 obtain ⟨n, rfl⟩ := Int.eq_ofNat_of_zero_le h.1
 have e : ∀ c : Nat, ((n : Int) == (c : Int)) = (n == c) := fun c => by
  rw [Bool.eq_iff_iff, beq_iff_eq, beq_iff_eq]; omega
 show (!(((n : Int)).toNat == 46 || ((n : Int)).toNat == 61 || ((n : Int)).toNat == 58)) = !(((n : Int) == ((46 : Nat) : Int)) || ((n : Int) == ((61 : Nat) : Int)) || ((n : Int) == ((58 : Nat) : Int)))
 rw [e 46, e 61, e 58]
 rfl
end Go.Proofs.Ytcmipoicnonaeaa.F
end
section
namespace Go.Proofs.Ytcmipoicnonaeaa.F
open Go.RowKit Go.Proofs.YtcmipoicnonaeaaW.PrintWords Go.Proofs.YtcmipoicnonaeaaW.PrintLast
set_option linter.unusedVariables false
set_option linter.unusedSimpArgs false
theorem dashAt_lt {s : ByteArray} {p : Nat} (h : qf2 s p = true) : p < s.size := by
 unfold qf2 at h
 simp only [Bool.and_eq_true, decide_eq_true_eq] at h
 exact h.1.1
end Go.Proofs.Ytcmipoicnonaeaa.F
end
section
namespace Go.Proofs.Ytcmipoicnonaeaa.F
open Go.RowKit Go.Proofs.YtcmipoicnonaeaaW.PrintWords Go.Proofs.YtcmipoicnonaeaaW.PrintLast
set_option linter.unusedVariables false
set_option linter.unusedSimpArgs false
def ofL (l : List UInt8) : S4 := addL qcq (l.map UInt8.toNat)
theorem ofL_ok (l : List UInt8) : okS (ofL l) := addL_ok (bytes_lt _) qe6
theorem qha (a : ByteArray) : ofS a = ofL a.data.toList := rfl
def qfw (m : UInt8) : Bool := m == 46 || m == 61 || m == 58
def clsL (n : List UInt8) : Option S4 := match qcx.f ⟨n.toArray⟩ with
 | some u => if u.2.2.2.2 = 0 then some (u.1, u.2.1, u.2.2.1, u.2.2.2.1) else none
 | none => none
def namedL (m : UInt8) (tl : List UInt8) : Option (S4 × Nat × Bool × Nat) :=
 if Lib.index (tl.drop 1) [m, 93] < 0 then none
 else if m = 58 then (clsL (tl.take ((Lib.index (tl.drop 1) [m, 93]).toNat + 1))).map fun t => (t, 0, false, (Lib.index (tl.drop 1) [m, 93]).toNat + 5)
 else if (Lib.index (tl.drop 1) [m, 93]).toNat = 0 then some (ofL (tl.take 1), (tl.headD 0).toNat, m == 46, 5) else none
def qfi : List UInt8 → Option (S4 × Nat × Bool × Nat)
 | [] => none
 | [b] => some (ofL [b], b.toNat, true, 1)
 | b :: m :: tl => if b ≠ 91 ∨ qfw m = false then some (ofL [b], b.toNat, true, 1) else namedL m tl
def qfl : List UInt8 → Bool
 | [] => false
 | [c] => c == 45
 | c :: d :: _ => c == 45 && d != 93
def qgc (l : List UInt8) : Option (S4 × Nat) :=
 match qfi l with
 | none => none
 | some (t, b, g, n) => if qfl (l.drop n) = false then some (t, n) else if g = false then none else
  match qfi (l.drop (n + 1)) with
  | none => none
  | some (u, c, g2, n2) => if g2 = false ∨ c < b ∨ qfl (l.drop (n + 1 + n2)) = true then none else some (addL qcq (List.range' b (c - b + 1)), n + 1 + n2)
theorem u8_bt {s : ByteArray} {p : Nat} (h : p < s.size) : (bt s (p : Int)).toNat.toUInt8 = s[p] := by
 rw [qde h]
 simp
theorem dash_L (s : ByteArray) (p : Nat) : qf2 s p = qfl (s.data.toList.drop p) := by
 unfold qf2
 by_cases h : p < s.size
 ·rw [qck h, qde h]
  have e1 : ((s[p].toNat : Int) == 45) = (s[p] == 45) := by
   rw [Bool.eq_iff_iff, beq_iff_eq, beq_iff_eq]
   constructor
   ·intro e; apply UInt8.toNat_inj.1; show _ = 45; omega
   ·intro e; rw [e]; rfl
  by_cases h1 : p + 1 < s.size
  ·rw [qck h1, qde h1, qfl, e1]
   have e2 : ((s[p + 1].toNat : Int) != 93) = (s[p + 1] != 93) := by
    rw [Bool.eq_iff_iff, bne_iff_ne, bne_iff_ne]
    constructor
    ·intro e q; rw [q] at e; exact e rfl
    ·intro e q; apply e; apply UInt8.toNat_inj.1; show _ = 93; omega
   rw [e2, decide_eq_true h, decide_eq_false (show ¬ s.size ≤ p + 1 by omega)]
   simp
  ·rw [List.drop_eq_nil_of_le (show s.data.toList.length ≤ p + 1 by rw [← qbj]; omega), qfl, e1, decide_eq_true h, decide_eq_true (show s.size ≤ p + 1 by omega)]
   simp
 ·rw [List.drop_eq_nil_of_le (by rw [← qbj]; omega), decide_eq_false h]
  rfl
theorem plain_L {s : ByteArray} (hs : s.size < 4294967281) {p : Nat} (hp : p < s.size) (hpl : qe9 s (p : Int) = true) :
  qao.f s (p : Int) 0 = some ((ofL [s[p]]).1, (ofL [s[p]]).2.1, (ofL [s[p]]).2.2.1, (ofL [s[p]]).2.2.2, (s[p].toNat : Int), true, s, ((p + 1 : Nat) : Int), 0) := by
 have hb0 := bt_ok s (p : Int)
 unfold qao.f
 rw [if_pos (by omega), if_pos hpl, bOf_eq (by rw [qbj, nums1 hb0]; simp), Option.bind_some, qha, nums1 hb0, u8_bt hp, qde hp]
 rfl
theorem cls_L (nm : ByteArray) : (∃ t : S4, okS t ∧ clsL nm.data.toList = some t ∧ qcx.f nm = some (t.1, t.2.1, t.2.2.1, t.2.2.2, 0)) ∨ (clsL nm.data.toList = none ∧ ∃ t1 t2 t3 t4 e : Int, e ≠ 0 ∧ qcx.f nm = some (t1, t2, t3, t4, e)) := by
 obtain ⟨t, e, hto, hcb, -⟩ := class_eq nm
 have hn : (⟨nm.data.toList.toArray⟩ : ByteArray) = nm := rfl
 by_cases he : e = 0
 ·subst he
  refine .inl ⟨t, hto, ?_, hcb⟩
  unfold clsL
  rw [hn, hcb]
  rfl
 ·refine .inr ⟨?_, _, _, _, _, e, he, hcb⟩
  unfold clsL
  rw [hn, hcb]
  exact if_neg he
theorem plain_flag {s : ByteArray} {p : Nat} (hp1 : p + 1 < s.size) : qe9 s (p : Int) = (s[p] != 91 || !qfw s[p + 1]) := by
 have hm := bt_ok s ((p + 1 : Nat) : Int)
 unfold qe9
 rw [decide_eq_false (show ¬ (s.size : Int) ≤ (p : Int) + 1 by omega), Bool.or_false, show (p : Int) + 1 = ((p + 1 : Nat) : Int) by omega, mark_eq hm, qde hp1, qde (show p < s.size by omega)]
 have e0 : ∀ (b c : UInt8), ((b.toNat : Int) == (c.toNat : Int)) = (b == c) := fun b c => by
  rw [Bool.eq_iff_iff, beq_iff_eq, beq_iff_eq]
  constructor
  ·intro e; apply UInt8.toNat_inj.1; omega
  ·intro e; rw [e]
 have e1 : ((s[p].toNat : Int) != 91) = (s[p] != 91) := by
  show (!((s[p].toNat : Int) == ((91 : UInt8).toNat : Int))) = !(s[p] == 91)
  rw [e0]
 rw [e1]
 congr 2
 show (((s[p + 1].toNat : Int) == ((46 : UInt8).toNat : Int)) || ((s[p + 1].toNat : Int) == ((61 : UInt8).toNat : Int)) || ((s[p + 1].toNat : Int) == ((58 : UInt8).toNat : Int))) = _
 rw [e0, e0, e0]
 rfl
set_option maxHeartbeats 1000000 in
theorem item_L (s : ByteArray) (hs : s.size < 4294967281) {p : Nat} (hp : p < s.size) :
  (qfi (s.data.toList.drop p) = none ∧ ∃ e : Int, e ≠ 0 ∧ ∃ t1 t2 t3 t4 b q : Int, ∃ g : Bool, qao.f s (p : Int) 0 = some (t1, t2, t3, t4, b, g, s, q, e)) ∨
  (∃ (t : S4) (b : Nat) (g : Bool) (n : Nat), qfi (s.data.toList.drop p) = some (t, b, g, n) ∧ okS t ∧ b < 256 ∧ 0 < n ∧ p + n ≤ s.size ∧ qao.f s (p : Int) 0 = some (t.1, t.2.1, t.2.2.1, t.2.2.2, (b : Int), g, s, ((p + n : Nat) : Int), 0)) := by
 by_cases hp1 : p + 1 < s.size
 rotate_left
 ·refine .inr ⟨ofL [s[p]], s[p].toNat, true, 1, ?_, ofL_ok _, s[p].toNat_lt, by omega, by omega, plain_L hs hp ?_⟩
  ·rw [qck hp, List.drop_eq_nil_of_le (show s.data.toList.length ≤ p + 1 by rw [← qbj]; omega)]
   rfl
  ·unfold qe9
   rw [decide_eq_true (show (s.size : Int) ≤ (p : Int) + 1 by omega)]
   simp
 have hd : qfi (s.data.toList.drop p) = if s[p] ≠ 91 ∨ qfw s[p + 1] = false then some (ofL [s[p]], s[p].toNat, true, 1) else namedL s[p + 1] (s.data.toList.drop (p + 1 + 1)) := by
  rw [qck hp, qck hp1, qfi]
 have hfl := plain_flag hp1
 by_cases hc : s[p] ≠ 91 ∨ qfw s[p + 1] = false
 ·refine .inr ⟨ofL [s[p]], s[p].toNat, true, 1, hd.trans (if_pos hc), ofL_ok _, s[p].toNat_lt, by omega, by omega, plain_L hs hp ?_⟩
  rw [hfl]
  rcases hc with h | h
  ·rw [bne_iff_ne.2 h]; rfl
  ·rw [h]; simp
 rw [if_neg hc] at hd
 have hpl : qe9 s (p : Int) = false := by
  rw [hfl]
  have h1 : s[p] = 91 := Decidable.byContradiction fun q => hc (.inl q)
  have h2 : qfw s[p + 1] = true := by
   cases q : qfw s[p + 1] with
   | true => rfl
   | false => exact absurd (.inr q) hc
  rw [h1, h2]
  rfl
 have hm := bt_ok s ((p + 1 : Nat) : Int)
 have hmk := u8_bt hp1
 obtain ⟨ix, hix⟩ : ∃ ix, Lib.index (s.data.toList.drop (p + 3)) [s[p + 1], 93] = ix := ⟨_, rfl⟩
 have hnk : qem s (p : Int) = ix := by
  unfold qem
  by_cases h2 : p + 2 < s.size
  ·rw [if_pos (by omega), show ((p : Int) + 3).toNat = p + 3 by omega, ext_drop, show (p : Int) + 1 = ((p + 1 : Nat) : Int) by omega, nums2 hm, hmk]
   exact hix
  ·rw [if_neg (by omega), ← hix, List.drop_eq_nil_of_le (by simp; omega)]
   rfl
 have hd1 : (s.data.toList.drop (p + 1 + 1)).drop 1 = s.data.toList.drop (p + 3) := by rw [List.drop_drop]
 have hnamed : qc7.f s (p : Int) 0 = if ix < 0 then some (⟨#[]⟩, bt s ((p + 1 : Nat) : Int), s, (p : Int), 6) else some (s.extract (p + 2) ((p : Int) + 3 + ix).toNat, bt s ((p + 1 : Nat) : Int), s, (p : Int) + 3 + ix + 2, 0) := by
  unfold qc7.f
  rw [if_pos (by omega), hnk, show (p : Int) + 1 = ((p + 1 : Nat) : Int) by omega, show ((p : Int) + 2).toNat = p + 2 by omega]
 unfold namedL at hd
 rw [hd1, hix] at hd
 by_cases hneg : ix < 0
 ·rw [if_pos hneg] at hd
  refine .inl ⟨hd, 6, by decide, 0, 0, 0, 0, 0, (p : Int), false, ?_⟩
  unfold qao.f
  rw [if_pos (by omega), if_neg (by rw [hpl]; decide), hnamed, if_pos hneg]
  rfl
 rw [if_neg hneg] at hd
 obtain ⟨i, rfl⟩ := Int.eq_ofNat_of_zero_le (show 0 ≤ ix by omega)
 have hfit := qgb (s.data.toList.drop (p + 3)) [s[p + 1], 93] (by rw [hix]; omega)
 rw [hix, List.length_drop, ← qbj] at hfit
 simp only [List.length_cons, List.length_nil] at hfit
 obtain ⟨en, hen⟩ : ∃ en, en = p + 3 + i := ⟨_, rfl⟩
 have hen2 : en + 2 ≤ s.size := by omega
 rw [if_neg hneg, show (p : Int) + 3 + (i : Int) = (en : Int) by omega, show ((en : Int)).toNat = en by omega, show (en : Int) + 2 = ((en + 2 : Nat) : Int) by omega] at hnamed
 obtain ⟨nm, hnm⟩ : ∃ nm, s.extract (p + 2) en = nm := ⟨_, rfl⟩
 have hnsz : nm.size = i + 1 := by rw [← hnm, ByteArray.size_extract]; omega
 have hnl : nm.data.toList = (s.data.toList.drop (p + 1 + 1)).take (i + 1) := by
  rw [← hnm, Lib.extract_data, show en - (p + 2) = i + 1 by omega]
 rw [hnm] at hnamed
 rw [show ((i : Nat) : Int).toNat = i by omega, ← hnl] at hd
 have hbr : qao.f s (p : Int) 0 = (if bt s ((p + 1 : Nat) : Int) = 58 then (qcx.f nm).bind fun u => some (u.1, u.2.1, u.2.2.1, u.2.2.2.1, 0, false, s, ((en + 2 : Nat) : Int), u.2.2.2.2)
   else if (nm.size : Int) = 1 then (qcz.f nm).bind fun u => some (u.1, u.2.1, u.2.2.1, u.2.2.2, bt nm 0, bt s ((p + 1 : Nat) : Int) == 46, s, ((en + 2 : Nat) : Int), 0)
   else some (0, 0, 0, 0, 0, false, s, ((en + 2 : Nat) : Int), 8)) := by
  unfold qao.f
  rw [if_pos (by omega), if_neg (by rw [hpl]; decide), hnamed, Option.bind_some]
  rfl
 have hbb := qde hp1
 have e58 : bt s ((p + 1 : Nat) : Int) = 58 ↔ s[p + 1] = 58 := by
  rw [hbb]
  constructor
  ·intro e; apply UInt8.toNat_inj.1; show _ = 58; omega
  ·intro e; rw [e]; rfl
 have e46 : (bt s ((p + 1 : Nat) : Int) == 46) = (s[p + 1] == 46) := by
  rw [hbb, Bool.eq_iff_iff, beq_iff_eq, beq_iff_eq]
  constructor
  ·intro e; apply UInt8.toNat_inj.1; show _ = 46; omega
  ·intro e; rw [e]; rfl
 by_cases h58 : s[p + 1] = 58
 ·rw [if_pos h58] at hd
  rw [if_pos (e58.2 h58)] at hbr
  rcases cls_L nm with ⟨t, hto, hcl, hcb⟩ | ⟨hcl, t1, t2, t3, t4, e, he, hcb⟩
  ·rw [hcl] at hd
   rw [hcb, Option.bind_some] at hbr
   refine .inr ⟨t, 0, false, i + 5, hd, hto, by omega, by omega, by omega, ?_⟩
   rw [show p + (i + 5) = en + 2 by omega]
   exact hbr
  ·rw [hcl] at hd
   rw [hcb, Option.bind_some] at hbr
   exact .inl ⟨hd, e, he, _, _, _, _, _, _, _, hbr⟩
 ·rw [if_neg h58] at hd
  rw [if_neg (fun q => h58 (e58.1 q))] at hbr
  by_cases h1 : i = 0
  ·subst h1
   rw [if_pos rfl] at hd
   rw [if_pos (show (nm.size : Int) = 1 by omega), bOf_eq (by omega), Option.bind_some, e46] at hbr
   have hnl1 : nm.data.toList = (s.data.toList.drop (p + 1 + 1)).take 1 := hnl
   have hp2 : p + 1 + 1 < s.size := by omega
   rw [qck hp2] at hnl1 hd
   have hn0 : nm.data.toList = [s[p + 1 + 1]] := hnl1
   have hb0 : bt nm 0 = (s[p + 1 + 1].toNat : Int) := by
    have := qde (s := nm) (i := 0) (by omega)
    refine this.trans ?_
    have h0 : nm.data.toList[0]'(by rw [← qbj]; omega) = s[p + 1 + 1] := by simp only [hn0, List.getElem_cons_zero]
    exact congrArg (fun b : UInt8 => (b.toNat : Int)) h0
   refine .inr ⟨ofL [s[p + 1 + 1]], s[p + 1 + 1].toNat, s[p + 1] == 46, 5, hd, ofL_ok _, UInt8.toNat_lt _, by omega, by omega, ?_⟩
   rw [show p + 5 = en + 2 by omega, hbr, qha, hn0, hb0]
  ·rw [if_neg h1] at hd
   rw [if_neg (show ¬ (nm.size : Int) = 1 by omega)] at hbr
   exact .inl ⟨hd, 8, by decide, _, _, _, _, _, _, _, hbr⟩
end Go.Proofs.Ytcmipoicnonaeaa.F
end
section
namespace Go.Proofs.Ytcmipoicnonaeaa.F
open Go.RowKit Go.Proofs.YtcmipoicnonaeaaW.PrintWords Go.Proofs.YtcmipoicnonaeaaW.PrintLast
set_option linter.unusedVariables false
set_option linter.unusedSimpArgs false
theorem span_set {lo hi : Nat} (hl : lo < 256) (hh : hi < 256) (h : ¬ hi < lo) : okS (addL qcq (List.range' lo (hi - lo + 1))) ∧ qcr.f (lo : Int) (hi : Int) = some ((addL qcq (List.range' lo (hi - lo + 1))).1, (addL qcq (List.range' lo (hi - lo + 1))).2.1, (addL qcq (List.range' lo (hi - lo + 1))).2.2.1, (addL qcq (List.range' lo (hi - lo + 1))).2.2.2, 0) := by
 refine ⟨addL_ok (fun b hb => by rw [List.mem_range'_1] at hb; omega) qe6, ?_⟩
 unfold qcr.f spanS
 rw [if_pos (by omega), if_neg (by omega), show (((hi : Int) - (lo : Int) + 1)).toNat = hi - lo + 1 by omega]
 have := qir (hi - lo + 1) lo qcq
 unfold qcq at this
 rw [this]
 rfl
theorem span_err {lo hi : Nat} (hl : lo < 256) (hh : hi < 256) (h : hi < lo) : qcr.f (lo : Int) (hi : Int) = some (0, 0, 0, 0, 7) := by
 unfold qcr.f spanS
 rw [if_pos (by omega), if_pos (by omega)]
set_option maxHeartbeats 1000000 in
theorem span_L (s : ByteArray) (hs : s.size < 4294967281) {p : Nat} (hp : p < s.size) :
  (qgc (s.data.toList.drop p) = none ∧ ∃ e : Int, e ≠ 0 ∧ ∃ t1 t2 t3 t4 q : Int, qbc.f s (p : Int) 0 = some (t1, t2, t3, t4, s, q, e)) ∨
  (∃ (t : S4) (n : Nat), qgc (s.data.toList.drop p) = some (t, n) ∧ okS t ∧ 0 < n ∧ p + n ≤ s.size ∧ qbc.f s (p : Int) 0 = some (t.1, t.2.1, t.2.2.1, t.2.2.2, s, ((p + n : Nat) : Int), 0)) := by
 rcases item_L s hs hp with ⟨hn, e, he, t1, t2, t3, t4, b, q, g, hb⟩ | ⟨t, b, g, n, hi, hto, hbr, hn0, hpn, hb⟩
 ·refine .inl ⟨by unfold qgc; rw [hn], e, he, t1, t2, t3, t4, q, ?_⟩
  unfold qbc.f
  rw [hb, Option.bind_some]
  exact if_pos he
 ·have hda := dash_b s (by omega) (p + n) 0
  have hdl := dash_L s (p + n)
  have hdr : ∀ m, (s.data.toList.drop p).drop m = s.data.toList.drop (p + m) := fun m => by rw [List.drop_drop]
  have hsl : qgc (s.data.toList.drop p) = if qfl (s.data.toList.drop (p + n)) = false then some (t, n) else if g = false then none else
    match qfi (s.data.toList.drop (p + (n + 1))) with
    | none => none
    | some (u, c, g2, n2) => if g2 = false ∨ c < b ∨ qfl (s.data.toList.drop (p + (n + 1 + n2))) = true then none else some (addL qcq (List.range' b (c - b + 1)), n + 1 + n2) := by
   unfold qgc
   rw [hi]
   simp only [hdr]
   try rfl
  cases hdash : qf2 s (p + n) with
  | false =>
   rw [hdash] at hda
   rw [← hdl, hdash, if_pos rfl] at hsl
   refine .inr ⟨t, n, hsl, hto, hn0, hpn, ?_⟩
   unfold qbc.f
   rw [hb, Option.bind_some]
   show (if (0 : Int) ≠ 0 then _ else _) = _
   rw [if_neg (by decide), hda, Option.bind_some]
   rfl
  | true =>
   rw [hdash] at hda
   rw [← hdl, hdash, if_neg (by decide)] at hsl
   have hql := dashAt_lt hdash
   have hw : qa0 (wrap64 (((p + n : Nat) : Int) + 1) = ((p + n + 1 : Nat) : Int)) := ⟨qdj (by omega)⟩
   have hsp : qbc.f s (p : Int) 0 = (if (s.size : Int) ≤ ((p + n + 1 : Nat) : Int) then some (t.1, t.2.1, t.2.2.1, t.2.2.2, s, ((p + n + 1 : Nat) : Int), 6) else
     if g = false then some (t.1, t.2.1, t.2.2.1, t.2.2.2, s, ((p + n + 1 : Nat) : Int), 7) else
     (qao.f s ((p + n + 1 : Nat) : Int) 0).bind fun (u1, u2, u3, u4, u5, u6, s11, p11, e11) =>
     if e11 ≠ 0 then some (t.1, t.2.1, t.2.2.1, t.2.2.2, s11, p11, e11) else
     if u6 = false then some (t.1, t.2.1, t.2.2.1, t.2.2.2, s11, p11, 7) else
     (qcr.f (b : Int) u5).bind fun (v1, v2, v3, v4, ev) =>
     if ev ≠ 0 then some (v1, v2, v3, v4, s11, p11, ev) else
     (qb0.f s11 p11 0).bind fun (d2, s12, p12, e12) =>
     if d2 = false then some (v1, v2, v3, v4, s12, p12, e12) else some (v1, v2, v3, v4, s12, p12, 7)) := by
    unfold qbc.f
    rw [hb, Option.bind_some]
    show (if (0 : Int) ≠ 0 then _ else _) = _
    rw [if_neg (by decide), hda, Option.bind_some]
    show (if true = false then _ else _) = _
    rw [if_neg (by decide), (qbe _).trans hw.out]
   by_cases hend : s.size ≤ p + n + 1
   ·rw [if_pos (by omega)] at hsp
    refine .inl ⟨?_, 6, by decide, _, _, _, _, _, hsp⟩
    rw [hsl, List.drop_eq_nil_of_le (show s.data.toList.length ≤ p + (n + 1) by rw [← qbj]; omega)]
    simp [qfi]
   rw [if_neg (by omega)] at hsp
   cases g with
   | false =>
    rw [if_pos rfl] at hsp hsl
    exact .inl ⟨hsl, 7, by decide, _, _, _, _, _, hsp⟩
   | true =>
    rw [if_neg (by decide)] at hsp hsl
    rcases item_L s hs (p := p + n + 1) (by omega) with ⟨hn2, e, he, u1, u2, u3, u4, c, r, f, hb2⟩ | ⟨u, c, f, n2, hi2, huo, hcr, hn20, hpn2, hb2⟩
    ·rw [show p + n + 1 = p + (n + 1) by omega] at hn2
     rw [hn2] at hsl
     rw [hb2, Option.bind_some] at hsp
     exact .inl ⟨hsl, e, he, _, _, _, _, _, hsp.trans (if_pos he)⟩
    ·rw [show p + n + 1 = p + (n + 1) by omega] at hi2
     rw [hi2] at hsl
     rw [hb2, Option.bind_some] at hsp
     have hsp2 := hsp.trans (if_neg (by decide))
     have hsl2 : qgc (s.data.toList.drop p) = if f = false ∨ c < b ∨ qfl (s.data.toList.drop (p + (n + 1 + n2))) = true then none else some (addL qcq (List.range' b (c - b + 1)), n + 1 + n2) := hsl
     cases f with
     | false =>
      rw [if_pos (.inl rfl)] at hsl2
      exact .inl ⟨hsl2, 7, by decide, _, _, _, _, _, hsp2.trans (if_pos rfl)⟩
     | true =>
      have hsp3 := hsp2.trans (if_neg (by decide))
      by_cases hlt : c < b
      ·rw [if_pos (.inr (.inl hlt))] at hsl2
       rw [span_err hbr hcr hlt, Option.bind_some] at hsp3
       exact .inl ⟨hsl2, 7, by decide, _, _, _, _, _, hsp3.trans (if_pos (by decide))⟩
      ·obtain ⟨hvo, hv⟩ := span_set hbr hcr hlt
       rw [hv, Option.bind_some] at hsp3
       have hsp4 := hsp3.trans (if_neg (by decide))
       have hda2 := dash_b s (by omega) (p + n + 1 + n2) 0
       have hdl2 := dash_L s (p + n + 1 + n2)
       rw [hda2, Option.bind_some] at hsp4
       rw [show p + (n + 1 + n2) = p + n + 1 + n2 by omega, ← hdl2] at hsl2
       cases hdr2 : qf2 s (p + n + 1 + n2) with
       | false =>
        rw [hdr2] at hsp4 hsl2
        rw [if_neg (by simp [hlt])] at hsl2
        refine .inr ⟨_, _, hsl2, hvo, by omega, by omega, ?_⟩
        rw [show p + (n + 1 + n2) = p + n + 1 + n2 by omega]
        exact hsp4
       | true =>
        rw [hdr2] at hsp4 hsl2
        rw [if_pos (.inr (.inr rfl))] at hsl2
        exact .inl ⟨hsl2, 7, by decide, _, _, _, _, _, hsp4⟩
inductive PR : Bool → S4 → List UInt8 → S4 → Nat → Prop
 | stop (t : S4) (l : List UInt8) : PR false t (93 :: l) t 1
 | step {f : Bool} {t : S4} {l : List UInt8} {u : S4} {n : Nat} {t' : S4} {m : Nat} : (f = true ∨ l.head? ≠ some 93) → qgc l = some (u, n) → PR false (orS t u) (l.drop n) t' m → PR f t l t' (n + m)
def qet (nt : Bool) (t : S4) : S4 := if nt then notS t else t
theorem qh4 {s : ByteArray} {p : Nat} (h : p < s.size) : (bt s (p : Int) = 93) ↔ (s.data.toList.drop p).head? = some 93 := by
 rw [qde h, qck h, List.head?_cons]
 constructor
 ·intro e
  congr 1
  apply UInt8.toNat_inj.1
  show _ = 93
  omega
 ·intro e
  rw [Option.some.inj e]
  rfl
theorem PR_loop (s : ByteArray) (hs : s.size < 4294967281) (nt : Bool) {f : Bool} {t : S4} {l : List UInt8} {t' : S4} {m : Nat} (h : PR f t l t' m) :
  ∀ p, l = s.data.toList.drop p → okS t → ∀ k, s.size < k + p → okS t' ∧ p + m ≤ s.size ∧ qch s nt k f t.1 t.2.1 t.2.2.1 t.2.2.2 s (p : Int) 0 = some ((qet nt t').1, (qet nt t').2.1, (qet nt t').2.2.1, (qet nt t').2.2.2, ((p + m : Nat) : Int), 0) := by
 induction h with
 | stop t l =>
  intro p hl ht k hk
  have hp : p < s.size := by
   by_cases hp : p < s.size
   ·exact hp
   ·rw [List.drop_eq_nil_of_le (by rw [← qbj]; omega)] at hl
    cases hl
  obtain ⟨k, rfl⟩ : ∃ j, k = j + 1 := ⟨k - 1, by omega⟩
  have hb : bt s (p : Int) = 93 := (qh4 hp).2 (by rw [← hl]; rfl)
  have hw : qa0 (wrap64 ((p : Int) + 1) = ((p + 1 : Nat) : Int)) := ⟨qdj (by omega)⟩
  refine ⟨ht, by omega, ?_⟩
  rw [qch, if_neg (by decide), if_neg (by omega), if_neg (by omega), if_pos ⟨hb, rfl⟩, (qbe _).trans hw.out]
  cases nt <;> rfl
 | step hc hsp hr ih =>
  rename_i f t l u n t' m
  intro p hl ht k hk
  have hp : p < s.size := by
   by_cases hp : p < s.size
   ·exact hp
   ·rw [List.drop_eq_nil_of_le (by rw [← qbj]; omega)] at hl
    subst hl
    cases hsp
  obtain ⟨k, rfl⟩ : ∃ j, k = j + 1 := ⟨k - 1, by omega⟩
  subst hl
  rcases span_L s hs hp with ⟨hn, _⟩ | ⟨u', n', hsp', huo, hn0, hpn, hb⟩
  ·rw [hn] at hsp; cases hsp
  ·rw [hsp'] at hsp
   cases hsp
   obtain ⟨h1, h2, h3⟩ := ih (p + n) (by rw [List.drop_drop]) (orS_ok ht huo) k (by omega)
   refine ⟨h1, by omega, ?_⟩
   rw [qch, if_neg (by decide), if_neg (by omega), if_neg (by omega), if_neg, hb, Option.bind_some]
   ·rw [show p + (n + m) = p + n + m by omega]
    exact h3
   ·rintro ⟨q1, q2⟩
    rcases hc with h | h
    ·rw [h] at q2; cases q2
    ·exact h ((qh4 hp).1 q1)
theorem loop_or (s : ByteArray) (hs : s.size < 4294967281) (nt : Bool) : ∀ (n p : Nat) (f : Bool) (t : S4), s.size ≤ n + p → okS t →
  (∃ t' m, PR f t (s.data.toList.drop p) t' m) ∨ ∃ e : Int, e ≠ 0 ∧ qch s nt (n + 1) f t.1 t.2.1 t.2.2.1 t.2.2.2 s (p : Int) 0 = some (0, 0, 0, 0, 0, e) := by
 intro n
 induction n with
 | zero =>
  intro p f t h ht
  refine .inr ⟨6, by decide, ?_⟩
  rw [qch, if_neg (by decide), if_pos (by omega)]
 | succ n ih =>
  intro p f t h ht
  by_cases hp : p < s.size
  ·by_cases hc : bt s (p : Int) = 93 ∧ f = false
   ·refine .inl ⟨t, 1, ?_⟩
    have hh := (qh4 hp).1 hc.1
    rw [qck hp] at hh ⊢
    rw [List.head?_cons] at hh
    rw [hc.2, Option.some.inj hh]
    exact .stop t _
   ·have hpl : qch s nt (n + 1 + 1) f t.1 t.2.1 t.2.2.1 t.2.2.2 s (p : Int) 0 = (qbc.f s (p : Int) 0).bind fun (u1, u2, u3, u4, rs', p', e') =>
      qch s nt (n + 1) false (Go.bits .or .u64 t.1 u1) (Go.bits .or .u64 t.2.1 u2) (Go.bits .or .u64 t.2.2.1 u3) (Go.bits .or .u64 t.2.2.2 u4) rs' p' e' := by
     rw [qch, if_neg (by decide), if_neg (by omega), if_neg (by omega), if_neg hc]
    rcases span_L s hs hp with ⟨hn, e, he, t1, t2, t3, t4, q, hb⟩ | ⟨u, m, hsp, huo, hm0, hpm, hb⟩
    ·refine .inr ⟨e, he, ?_⟩
     rw [hpl, hb, Option.bind_some]
     show qch s nt (n + 1) _ _ _ _ _ _ _ _ = _
     rw [qch, if_pos he]
    ·rcases ih (p + m) false (orS t u) (by omega) (orS_ok ht huo) with ⟨t', m', hr⟩ | ⟨e, he, hr⟩
     ·refine .inl ⟨t', m + m', .step ?_ hsp (by rw [List.drop_drop]; exact hr)⟩
      cases f with
      | true => exact .inl rfl
      | false => exact .inr fun q => hc ⟨(qh4 hp).2 q, rfl⟩
     ·refine .inr ⟨e, he, ?_⟩
      rw [hpl, hb, Option.bind_some]
      exact hr
  ·refine .inr ⟨6, by decide, ?_⟩
   rw [qch, if_neg (by decide), if_pos (by omega)]
def BR (nt : Bool) (l : List UInt8) (t : S4) (m : Nat) : Prop :=
 ∃ l', l = 91 :: l' ∧ ((nt = false ∧ l'.head? ≠ some 94 ∧ ∃ k, PR true qcq l' t k ∧ m = k + 1) ∨ (nt = true ∧ ∃ l2 k, l' = 94 :: l2 ∧ PR true qcq l2 t k ∧ m = k + 2))
theorem head_lt {s : ByteArray} {p : Nat} {b : UInt8} {l : List UInt8} (h : s.data.toList.drop p = b :: l) : ∃ hp : p < s.size, s[p] = b ∧ s.data.toList.drop (p + 1) = l := by
 by_cases hp : p < s.size
 ·rw [qck hp] at h
  injection h with h1 h2
  exact ⟨hp, h1, h2⟩
 ·rw [List.drop_eq_nil_of_le (by rw [← qbj]; omega)] at h
  cases h
set_option maxHeartbeats 1000000 in
theorem BR_parse (s : ByteArray) (hs : s.size < 4294967281) (p : Nat) {nt : Bool} {t : S4} {m : Nat} (h : BR nt (s.data.toList.drop p) t m) :
  okS t ∧ p + m ≤ s.size ∧ qbt.f s (p : Int) = some ((qet nt t).1, (qet nt t).2.1, (qet nt t).2.2.1, (qet nt t).2.2.2, ((p + m : Nat) : Int), 0) := by
 obtain ⟨l', hl, h⟩ := h
 obtain ⟨hp, hs0, hd1⟩ := head_lt hl
 have hb : bt s (p : Int) = 91 := by rw [qde hp, hs0]; rfl
 have hw : qa0 (wrap64 ((p : Int) + 1) = ((p + 1 : Nat) : Int)) := ⟨qdj (by omega)⟩
 have hw2 : qa0 (wrap64 (((p + 1 : Nat) : Int) + 1) = ((p + 2 : Nat) : Int)) := ⟨qdj (by omega)⟩
 have hbp : qbt.f s (p : Int) = (if ((p + 1 : Nat) : Int) < (s.size : Int) ∧ bt s ((p + 1 : Nat) : Int) = 94 then qch s true (s.size + 1) true 0 0 0 0 s ((p + 2 : Nat) : Int) 0
   else qch s false (s.size + 1) true 0 0 0 0 s ((p + 1 : Nat) : Int) 0) := by
  unfold qbt.f
  rw [if_neg (by rw [hb]; omega), (qbe _).trans hw.out, (qbe _).trans hw2.out, if_neg (by omega)]
 rcases h with ⟨rfl, hh, k, hr, rfl⟩ | ⟨rfl, l2, k, rfl, hr, rfl⟩
 ·obtain ⟨h1, h2, h3⟩ := PR_loop s hs false hr (p + 1) hd1.symm qe6 (s.size + 1) (by omega)
  refine ⟨h1, by omega, ?_⟩
  rw [hbp, if_neg, show p + (k + 1) = p + 1 + k by omega]
  ·exact h3
  ·rintro ⟨q1, q2⟩
   have hp1 : p + 1 < s.size := by omega
   apply hh
   rw [← hd1, qck hp1, List.head?_cons]
   congr 1
   rw [qde hp1] at q2
   apply UInt8.toNat_inj.1
   show _ = 94
   omega
 ·obtain ⟨hp1, hs1, hd2⟩ := head_lt hd1
  obtain ⟨h1, h2, h3⟩ := PR_loop s hs true hr (p + 2) hd2.symm qe6 (s.size + 1) (by omega)
  refine ⟨h1, by omega, ?_⟩
  rw [hbp, if_pos ⟨by omega, by rw [qde hp1, hs1]; rfl⟩, show p + (k + 2) = p + 2 + k by omega]
  exact h3
set_option maxHeartbeats 1000000 in
theorem BR_or (s : ByteArray) (hs : s.size < 4294967281) (p : Nat) :
  (∃ nt t m, BR nt (s.data.toList.drop p) t m) ∨ ∃ e : Int, e ≠ 0 ∧ qbt.f s (p : Int) = some (0, 0, 0, 0, 0, e) := by
 by_cases hc : (p : Int) < 0 ∨ (s.size : Int) ≤ (p : Int) ∨ bt s (p : Int) ≠ 91
 ·refine .inr ⟨1, by decide, ?_⟩
  unfold qbt.f
  rw [if_pos hc]
 ·have hp : p < s.size := by
   by_cases hp : p < s.size
   ·exact hp
   ·exact absurd (.inr (.inl (by omega))) hc
  have hb : bt s (p : Int) = 91 := Decidable.byContradiction (fun q => hc (.inr (.inr q)))
  have hw : qa0 (wrap64 ((p : Int) + 1) = ((p + 1 : Nat) : Int)) := ⟨qdj (by omega)⟩
  have hw2 : qa0 (wrap64 (((p + 1 : Nat) : Int) + 1) = ((p + 2 : Nat) : Int)) := ⟨qdj (by omega)⟩
  have hbp : qbt.f s (p : Int) = (if ((p + 1 : Nat) : Int) < (s.size : Int) ∧ bt s ((p + 1 : Nat) : Int) = 94 then qch s true (s.size + 1) true 0 0 0 0 s ((p + 2 : Nat) : Int) 0
    else qch s false (s.size + 1) true 0 0 0 0 s ((p + 1 : Nat) : Int) 0) := by
   unfold qbt.f
   rw [if_neg hc, (qbe _).trans hw.out, (qbe _).trans hw2.out, if_neg (by omega)]
  have hs0 : s[p] = 91 := by
   rw [qde hp] at hb
   apply UInt8.toNat_inj.1
   show _ = 91
   omega
  have hd : s.data.toList.drop p = 91 :: s.data.toList.drop (p + 1) := by rw [qck hp, hs0]
  by_cases hn : ((p + 1 : Nat) : Int) < (s.size : Int) ∧ bt s ((p + 1 : Nat) : Int) = 94
  ·have hp1 : p + 1 < s.size := by omega
   rw [if_pos hn] at hbp
   rcases loop_or s hs true s.size (p + 2) true qcq (by omega) qe6 with ⟨t', m, hr⟩ | ⟨e, he, hr⟩
   ·refine .inl ⟨true, t', m + 2, _, hd, .inr ⟨rfl, s.data.toList.drop (p + 2), m, ?_, hr, rfl⟩⟩
    have h94 := hn.2
    rw [qde hp1] at h94
    rw [qck hp1]
    congr 1
    apply UInt8.toNat_inj.1
    show _ = 94
    omega
   ·exact .inr ⟨e, he, hbp.trans hr⟩
  ·rw [if_neg hn] at hbp
   rcases loop_or s hs false s.size (p + 1) true qcq (by omega) qe6 with ⟨t', m, hr⟩ | ⟨e, he, hr⟩
   ·refine .inl ⟨false, t', m + 1, _, hd, .inl ⟨rfl, ?_, m, hr, rfl⟩⟩
    intro q
    apply hn
    by_cases hp1 : p + 1 < s.size
    ·rw [qck hp1, List.head?_cons] at q
     refine ⟨by omega, ?_⟩
     rw [qde hp1, Option.some.inj q]
     rfl
    ·rw [List.drop_eq_nil_of_le (show s.data.toList.length ≤ p + 1 by rw [← qbj]; omega)] at q
     cases q
   ·exact .inr ⟨e, he, hbp.trans hr⟩
end Go.Proofs.Ytcmipoicnonaeaa.F
end
section
namespace Go.Proofs.Ytcmipoicnonaeaa.F
open Go.RowKit Go.Proofs.YtcmipoicnonaeaaW.PrintWords Go.Proofs.YtcmipoicnonaeaaW.PrintLast Go.Proofs.YtcmipoicnonaeaaW.PrintMore
set_option linter.unusedVariables false
set_option linter.unusedSimpArgs false
theorem bnot_zero : qe2.f 0 0 0 0 = some ((notS qcq).1, (notS qcq).2.1, (notS qcq).2.2.1, (notS qcq).2.2.2) := rfl
theorem brk_or (s : ByteArray) (hs : s.size ≤ 100000) (i : Nat) : (∃ (t : S4) (n : Nat), okS t ∧ i < n ∧ n ≤ s.size ∧ qbt.f s (i : Int) = some (t.1, t.2.1, t.2.2.1, t.2.2.2, (n : Int), 0)) ∨ ∃ e : Int, e ≠ 0 ∧ qbt.f s (i : Int) = some (0, 0, 0, 0, 0, e) := by
 rcases BR_or s (by omega) i with ⟨nt, t, m, h⟩ | h
 ·obtain ⟨h1, h2, h3⟩ := BR_parse s (by omega) i h
  have hm : 0 < m := by
   obtain ⟨l', _, h⟩ := h
   rcases h with ⟨_, _, k, hk, rfl⟩ | ⟨_, _, k, _, hk, rfl⟩ <;> omega
  refine .inl ⟨qet nt t, i + m, ?_, by omega, h2, h3⟩
  unfold qet
  by_cases c : nt = true
  ·rw [if_pos c]
   exact notS_ok h1
  ·rw [if_neg c]
   exact h1
 ·exact .inr h
theorem read_j1 (s : ByteArray) (hs : s.size ≤ 100000) {i : Nat} (hi : i < s.size) (c : Int) (f : Bool) (k : Nat) : qb8.j1 (k + 1) s (i : Int) c f = some (expT (if f = true then (tk 1 i 0 0 0, i + 1) else if c = 36 ∧ (i + 1 = s.size ∨ i + 2 < s.size ∧ qd4 s (i + 1) 92 41 = true) then (tk 2 i 0 0 0, i + 1) else (tkB i (oneS c), i + 1))) := by
 have w3 : wrap64 ((i : Int) + 3) = ((i + 1 + 2 : Nat) : Int) := by rw [qcb (by omega) (by omega)]; omega
 rw [qb8.j1, wrap_one (by omega), qgd (by omega), w3, qj4]
 by_cases hf : f = true
 ·rw [if_pos hf, if_pos hf]
  rfl
 rw [if_neg hf, if_neg hf]
 by_cases c36 : c = 36
 ·rw [if_pos c36]
  by_cases h1 : i + 1 = s.size
  ·have hp : c = 36 ∧ (i + 1 = s.size ∨ i + 2 < s.size ∧ qd4 s (i + 1) 92 41 = true) := ⟨c36, .inl h1⟩
   rw [if_pos hp, if_pos (by omega)]
   rfl
  rw [if_neg (by omega)]
  by_cases h2 : i + 2 < s.size
  ·have e := two_ext (s := s) (i := i + 1) (by omega) 92 41
   rw [show ((92 : UInt8).toNat : Int) = 92 from rfl, show ((41 : UInt8).toNat : Int) = 41 from rfl] at e
   rw [if_pos (by omega), if_pos (by omega), if_pos (by omega), if_pos (by omega), show (((i + 1 : Nat) : Int)).toNat = i + 1 by omega, show (((i + 1 + 2 : Nat) : Int)).toNat = i + 1 + 2 by omega]
   by_cases c2 : qd4 s (i + 1) 92 41 = true
   ·have hp : c = 36 ∧ (i + 1 = s.size ∨ i + 2 < s.size ∧ qd4 s (i + 1) 92 41 = true) := ⟨c36, .inr ⟨h2, c2⟩⟩
    rw [if_pos hp, if_pos (e.2 c2)]
    rfl
   ·have hn : ¬ (c = 36 ∧ (i + 1 = s.size ∨ i + 2 < s.size ∧ qd4 s (i + 1) 92 41 = true)) := fun h => h.2.elim h1 (fun q => c2 q.2)
    rw [if_neg hn, if_neg (fun h => c2 (e.1 h))]
    rfl
  ·have hn : ¬ (c = 36 ∧ (i + 1 = s.size ∨ i + 2 < s.size ∧ qd4 s (i + 1) 92 41 = true)) := fun h => h.2.elim h1 (fun q => h2 q.1)
   rw [if_neg hn, if_neg (by omega)]
   rfl
 ·have hn : ¬ (c = 36 ∧ (i + 1 = s.size ∨ i + 2 < s.size ∧ qd4 s (i + 1) 92 41 = true)) := fun h => c36 h.1
  rw [if_neg c36, if_neg hn]
  rfl
theorem read_j0 (s : ByteArray) (hs : s.size ≤ 100000) {i : Nat} (hi : i < s.size) (c : Int) (f b : Bool) (k : Nat) : qb8.j0 (k + 2) s (i : Int) f c b = some (expT (if b = true then (tk 5 i 0 (-1) 0, i + 1) else if c = 94 ∧ f = true then (tk 1 i 0 0 0, i + 1) else if c = 36 ∧ (i + 1 = s.size ∨ i + 2 < s.size ∧ qd4 s (i + 1) 92 41 = true) then (tk 2 i 0 0 0, i + 1) else (tkB i (oneS c), i + 1))) := by
 rw [qb8.j0]
 by_cases hb : b = true
 ·rw [if_pos hb, if_pos hb, wrap_one (by omega)]
  rfl
 rw [if_neg hb, if_neg hb]
 by_cases c94 : c = 94
 ·rw [if_pos c94, read_j1 s hs hi]
  by_cases hf : f = true
  ·have hp : c = 94 ∧ f = true := ⟨c94, hf⟩
   rw [if_pos hf, if_pos hp]
  ·have hn : ¬ (c = 94 ∧ f = true) := fun h => hf h.2
   rw [if_neg hf, if_neg hn]
 ·have hn : ¬ (c = 94 ∧ f = true) := fun h => c94 h.1
  rw [if_neg c94, read_j1 s hs hi, if_neg hn, if_neg (by decide)]
theorem read_eq (s : ByteArray) (hs : s.size ≤ 100000) {i : Nat} (hi : i < s.size) (f b : Bool) (j : Nat) : qb8.f (s.size + 5 + j) s (i : Int) f b = some (expT (rdT s i f b)) := by
 unfold qb8.f rdT
 rw [if_pos (by omega), if_pos (by omega), esc_eq s hs hi, bnot_zero]
 have hj := fun c b => read_j0 s hs hi c f b (s.size + 3 + j)
 rw [show s.size + 3 + j + 2 = s.size + 5 + j by omega] at hj
 simp only [hj, Option.bind_some]
 have hbr := brk_or s hs i
 generalize bt s (i : Int) = c
 by_cases c92 : c = 92
 ·rw [if_pos c92, if_pos c92]
  try rfl
 rw [if_neg c92, if_neg c92]
 by_cases c91 : c = 91
 ·rw [if_pos c91, if_pos c91]
  rcases hbr with ⟨t, n, -, -, -, h⟩ | ⟨e, he, h⟩
  ·rw [h, Option.bind_some]
   show (if (0 : Int) = 0 then _ else _) = some (expT (if (0 : Int) = 0 then _ else _))
   rw [if_pos rfl, if_pos rfl]
   rfl
  ·rw [h, Option.bind_some]
   show (if e = 0 then _ else _) = some (expT (if e = 0 then _ else _))
   rw [if_neg he, if_neg he]
   rfl
 rw [if_neg c91, if_neg c91]
 by_cases c46 : c = 46
 ·rw [if_pos c46, if_pos c46, wrap_one (by omega)]
  rfl
 rw [if_neg c46, if_neg c46]
 by_cases c42 : c = 42
 ·rw [if_pos c42]
  cases b with
  | true =>
   have hn : ¬ (c = 42 ∧ true = false) := fun h => by cases h.2
   rw [if_neg hn]
   try rfl
  | false =>
   have hp : c = 42 ∧ false = false := ⟨c42, rfl⟩
   rw [if_pos hp]
   try rfl
 ·have hn : ¬ (c = 42 ∧ b = false) := fun h => c42 h.1
  rw [if_neg c42, if_neg hn]
  try rfl
structure RdOk (s : ByteArray) (i : Nat) (b : Bool) (r : Tok × Nat) : Prop where
 a : r.1.a = (i : Int)
 ok : OkT r.1
 rep : r.1.k = 5 → b = false
 next : r.1.k ≠ 7 → i < r.2 ∧ r.2 ≤ s.size
 eol : r.1.k = 2 → r.2 = s.size ∨ qd4 s r.2 92 41 = true
theorem qi9 {s : ByteArray} {i n : Nat} {b : Bool} {k lo hi e : Int} (h0 : 0 ≤ k) (h7 : k ≤ 7) (hk2 : k ≠ 2) (hr : k = 5 → b = false ∧ 0 ≤ lo ∧ lo ≤ 255 ∧ (hi = -1 ∨ lo ≤ hi ∧ hi ≤ 255)) (hb : k = 6 → 1 ≤ lo ∧ lo ≤ 9) (hf : k = 7 → e ≠ 0) (hn : k ≠ 7 → i < n ∧ n ≤ s.size) : RdOk s i b (tk k i lo hi e, n) :=
 ⟨rfl, ⟨h0, h7, fun h => (hr h).2, hb, hf⟩, fun h => (hr h).1, hn, fun h => absurd h hk2⟩
theorem qgu {s : ByteArray} {i n : Nat} {b : Bool} {t : S4} (hn : i < n ∧ n ≤ s.size) : RdOk s i b (tkB i t, n) :=
 ⟨rfl, ⟨Int.le_refl _, (show (0 : Int) ≤ 7 by decide), (fun h => by cases h), (fun h => by cases h), (fun h => by cases h)⟩, (fun h => by cases h), fun _ => hn, (fun h => by cases h)⟩
theorem qg1 {s : ByteArray} {i n : Nat} {b : Bool} {e : Int} (he : e ≠ 0) : RdOk s i b (tk 7 i 0 0 e, n) :=
 qi9 (by decide) (by decide) (by decide) (fun h => by cases h) (fun h => by cases h) (fun _ => he) (fun h => absurd rfl h)
theorem qhl {s : ByteArray} {i n : Nat} {b : Bool} {k : Int} (h : k = 1 ∨ k = 3 ∨ k = 4) (hn : i < n ∧ n ≤ s.size) : RdOk s i b (tk k i 0 0 0, n) :=
 qi9 (by omega) (by omega) (by omega) (fun h => by omega) (fun h => by omega) (fun h => by omega) (fun _ => hn)
theorem esc_ok (s : ByteArray) {i : Nat} (hi : i < s.size) (b : Bool) : RdOk s i b (escA s i b) := by
 unfold escA
 simp only
 generalize bt s ((i + 1 : Nat) : Int) = c
 split
 ·exact qg1 (by decide)
 split
 ·exact qhl (by decide) ⟨by omega, by omega⟩
 split
 ·exact qhl (by decide) ⟨by omega, by omega⟩
 split
 ·cases h : itvA s (i + 2) with
  | none => exact qg1 (by decide)
  | some r =>
   obtain ⟨lo, h', n⟩ := r
   obtain ⟨q1, q2, q3, q4, q5⟩ := itvA_ok (by omega) h
   simp only
   split
   ·exact qg1 (by decide)
   ·rename_i hb
    exact qi9 (by decide) (by decide) (by decide) (fun _ => ⟨by simpa using hb, q1, q2, q3⟩) (fun h => by cases h) (fun h => by cases h) (fun _ => ⟨by omega, q5⟩)
 split
 ·exact qg1 (by decide)
 split
 ·exact qgu ⟨by omega, by omega⟩
 split
 ·exact qi9 (by decide) (by decide) (by decide) (fun h => by cases h) (fun _ => ⟨by omega, by omega⟩) (fun h => by cases h) (fun _ => ⟨by omega, by omega⟩)
 split
 ·exact qg1 (by decide)
 ·exact qgu ⟨by omega, by omega⟩
theorem rd_ok (s : ByteArray) (hs : s.size ≤ 100000) {i : Nat} (hi : i < s.size) (f b : Bool) : RdOk s i b (rdT s i f b) := by
 unfold rdT
 simp only
 have hbr := brk_or s hs i
 generalize bt s (i : Int) = c
 split
 ·exact esc_ok s hi b
 split
 ·rcases hbr with ⟨t, n, -, h1, h2, h⟩ | ⟨e, he, h⟩
  ·rw [h]
   show RdOk s i b (if (0 : Int) = 0 then (tkB i (t.1, t.2.1, t.2.2.1, t.2.2.2), ((n : Int)).toNat) else _)
   rw [if_pos rfl]
   exact qgu ⟨by omega, by omega⟩
  ·rw [h]
   show RdOk s i b (if e = 0 then _ else (tk 7 i 0 0 e, i))
   rw [if_neg he]
   exact qg1 he
 split
 ·exact qgu ⟨by omega, by omega⟩
 split
 ·rename_i h
  exact qi9 (by decide) (by decide) (by decide) (fun _ => ⟨h.2, by decide, by decide, .inl rfl⟩) (fun h => by cases h) (fun h => by cases h) (fun _ => ⟨by omega, by omega⟩)
 split
 ·exact qhl (by decide) ⟨by omega, by omega⟩
 split
 ·rename_i h
  refine ⟨rfl, ⟨by show (0 : Int) ≤ 2; decide, by show (2 : Int) ≤ 7; decide, (fun h => by cases h), (fun h => by cases h), (fun h => by cases h)⟩, (fun h => by cases h), fun _ => ⟨by show i < i + 1; omega, by show i + 1 ≤ s.size; omega⟩, fun _ => ?_⟩
  rcases h.2 with h | h
  ·exact .inl h
  ·exact .inr h.2
 ·exact qgu ⟨by omega, by omega⟩
def qed (s : ByteArray) : Nat → Nat → Bool → Bool → List Tok
 | 0, _, _, _ => []
 | n + 1, i, f, b => if i < s.size then (if (rdT s i f b).1.k = 7 then [(rdT s i f b).1] else (rdT s i f b).1 :: qed s n (rdT s i f b).2 ((rdT s i f b).1.k == 3) ((rdT s i f b).1.k == 3 || (rdT s i f b).1.k == 1)) else []
theorem toks_eq (s : ByteArray) (hs : s.size ≤ 100000) (j : Nat) : ∀ (n i : Nat) (f b : Bool), s.size < n + i → i ≤ s.size → tokL (s.size + 5 + j) s n (i : Int) f b = some (qed s n i f b)
 | 0, i, f, b, h, hi => by omega
 | n + 1, i, f, b, h, _ => by
  rw [tokL, qed]
  by_cases hi : i < s.size
  ·have hr := rd_ok s hs hi f b
   rw [if_pos (by omega), if_pos hi, read_eq s hs hi, Option.bind_some]
   by_cases c7 : (rdT s i f b).1.k = 7
   ·have c7' : (expT (rdT s i f b)).1 = 7 := c7
    rw [if_pos c7', if_pos c7]
    rfl
   ·obtain ⟨h1, h2⟩ := hr.next c7
    have c7' : ¬ (expT (rdT s i f b)).1 = 7 := c7
    have hn : (i : Int) < (expT (rdT s i f b)).2.2.2.2.2.2.2.2.2 := by show (i : Int) < ((rdT s i f b).2 : Int); omega
    rw [if_neg c7', if_neg c7, if_pos hn]
    show (tokL (s.size + 5 + j) s n ((rdT s i f b).2 : Int) _ _).map _ = _
    rw [toks_eq s hs j n (rdT s i f b).2 _ _ (by omega) h2]
    rfl
  ·rw [if_neg (by omega), if_neg hi]
theorem toks_len (s : ByteArray) (hs : s.size ≤ 100000) : ∀ (n i : Nat) (f b : Bool), i ≤ s.size → (qed s n i f b).length + i ≤ s.size + (if i < s.size then 0 else 0)
 | 0, i, f, b, h => by
  rw [qed]
  simpa using h
 | n + 1, i, f, b, h => by
  rw [qed]
  by_cases hi : i < s.size
  ·have hr := rd_ok s hs hi f b
   rw [if_pos hi]
   by_cases c7 : (rdT s i f b).1.k = 7
   ·rw [if_pos c7]
    simp only [List.length_cons, List.length_nil]
    omega
   ·obtain ⟨h1, h2⟩ := hr.next c7
    rw [if_neg c7, List.length_cons]
    have := toks_len s hs n (rdT s i f b).2 ((rdT s i f b).1.k == 3) ((rdT s i f b).1.k == 3 || (rdT s i f b).1.k == 1) h2
    simp only [ite_self, Nat.add_zero] at this ⊢
    omega
  ·rw [if_neg hi]
   simpa using h
theorem two_tok {s : ByteArray} {i : Nat} (h : qd4 s i 92 41 = true) (f b : Bool) : (rdT s i f b).1.k = 4 := by
 unfold qd4 at h
 simp only [Bool.and_eq_true, decide_eq_true_eq, beq_iff_eq] at h
 obtain ⟨⟨h1, h2⟩, h3⟩ := h
 unfold rdT
 simp only
 rw [if_pos h2]
 unfold escA
 simp only
 rw [if_neg (by omega), h3, if_neg (by decide), if_pos rfl]
 rfl
theorem toks_ok (s : ByteArray) (hs : s.size ≤ 100000) : ∀ (n i : Nat) (f b b' : Bool), (b' = true → b = false → i = s.size ∨ qd4 s i 92 41 = true) → (b = true → b' = true) → OkL b' (qed s n i f b)
 | 0, i, f, b, b', _, _ => by
  rw [qed]
  trivial
 | n + 1, i, f, b, b', h, hbb => by
  rw [qed]
  by_cases hi : i < s.size
  ·have hr := rd_ok s hs hi f b
   have h5 : (rdT s i f b).1.k = 5 → b' = false := by
    intro c
    have hb := hr.rep c
    cases hb' : b' with
    | false => rfl
    | true =>
     rcases h hb' hb with h | h
     ·omega
     ·rw [two_tok h] at c
      cases c
   rw [if_pos hi]
   by_cases c7 : (rdT s i f b).1.k = 7
   ·rw [if_pos c7]
    exact ⟨hr.ok, h5, trivial⟩
   ·rw [if_neg c7]
    refine ⟨hr.ok, h5, toks_ok s hs n _ _ _ _ (fun e1 e2 => ?_) (fun e => ?_)⟩
    ·rw [e2, Bool.false_or] at e1
     exact hr.eol (eq_of_beq e1)
    ·rw [e]
     rfl
  ·rw [if_neg hi]
   trivial
def qfb (s : ByteArray) : List S27 × Int × Int := if s.size ≤ 512 then ansC (runC p0 (qed s (s.size + 1) 0 true true)) else ([], 2, 0)
theorem parse_C (s : ByteArray) (j : Nat) : qf1 (s.size + 5 + j) s = some (qfb s) := by
 unfold qf1 qfb
 by_cases hs : s.size ≤ 512
 ·rw [if_pos hs, if_pos hs]
  have h := toks_eq s (by omega) j (s.size + 1) 0 true true (by omega) (by omega)
  have hl := toks_len s (by omega) (s.size + 1) 0 true true (by omega)
  have ho := toks_ok s (by omega) (s.size + 1) 0 true true true (fun _ e => by cases e) (fun e => e)
  rw [show ((0 : Nat) : Int) = 0 from rfl] at h
  rw [h, Option.bind_some]
  exact ans_eq (by simp only [ite_self] at hl; omega) ho
 ·rw [if_neg hs, if_neg hs]
theorem parse_f (s : ByteArray) (j : Nat) : qce.f (s.size + 5 + j) s = some (0, 0, 0, 0, 0, 0, 0, 0, (qfb s).1, (qfb s).2.1, (qfb s).2.2) := by
 unfold qce.f
 rw [parse_C s j]
 rfl
end Go.Proofs.Ytcmipoicnonaeaa.F
end
