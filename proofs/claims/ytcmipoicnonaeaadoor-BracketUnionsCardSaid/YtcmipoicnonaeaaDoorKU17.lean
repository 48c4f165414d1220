/- Texts of this claim, 17 of 19: PureSets, F15, F29, F46, PureSets2, F66, F77, F78, F67, F44, F45, F25, PureParse1, PureParse2, PureParse3, PureParse4, PureList1, PureList2, PureText1, F30, F14, PureText2, PureList3, F4, PureBracketTexts, PureList4, F11, F3, PureBracketParses. -/
import Derived.Laws.BitsAllLaws
import Derived.Lib.Zigzag
import Derived.KernelRfl
import Derived.Test.YtcmipoicnonaeaaDoorKU4
import Derived.Test.YtcmipoicnonaeaaDoorKU6
import Derived.Test.YtcmipoicnonaeaaDoorKU7
import Derived.Test.YtcmipoicnonaeaaDoorKU8
import Derived.Test.YtcmipoicnonaeaaDoorKU10
import Derived.Test.YtcmipoicnonaeaaDoorKU12
import Derived.Test.YtcmipoicnonaeaaDoorKU13
import Derived.Test.YtcmipoicnonaeaaDoorKU14
import Derived.Test.YtcmipoicnonaeaaDoorKU15
section
namespace Go.Proofs.YtcmipoicnonaeaaDoor.F
open Go.RowKit Go.Proofs.YtcmipoicnonaeaaDoorW.PrintWords
set_option linter.unusedVariables false
set_option linter.unusedSimpArgs false
def w64 (x : Int) : Prop := 0 ≤ x ∧ x < 18446744073709551616
abbrev S4 := Int × Int × Int × Int
def okS (s : S4) : Prop := w64 s.1 ∧ w64 s.2.1 ∧ w64 s.2.2.1 ∧ w64 s.2.2.2
def wrd (s : S4) (k : Nat) : Nat := if k = 0 then s.1.toNat else if k = 1 then s.2.1.toNat else if k = 2 then s.2.2.1.toNat else s.2.2.2.toNat
def has (s : S4) (b : Nat) : Bool := (wrd s (b / 64)).testBit (b % 64)
theorem wrd_lt {s : S4} (h : okS s) (k : Nat) : wrd s k < 2 ^ 64 := by
  obtain ⟨h0, h1, h2, h3⟩ := h
  unfold w64 at *
  unfold wrd
  split
  · omega
  · split
    · omega
    · split <;> omega
theorem int_pow (m : Nat) : (2 : Int) ^ m = ((2 ^ m : Nat) : Int) := by simp
theorem hasBit_eq {s : S4} (h : okS s) {b : Nat} (hb : b < 256) : hasBit s.1 s.2.1 s.2.2.1 s.2.2.2 (b : Int) = has s b := by
  have hw : wordOf s.1 s.2.1 s.2.2.1 s.2.2.2 (b : Int) = (wrd s (b / 64) : Int) := by
    obtain ⟨h0, h1, h2, h3⟩ := h
    unfold w64 at *
    unfold wordOf wrd
    rcases (by omega : b / 64 = 0 ∨ b / 64 = 1 ∨ b / 64 = 2 ∨ b / 64 = 3) with e | e | e | e
    all_goals
      have e' : (b : Int) / 64 = ((b / 64 : Nat) : Int) := by omega
      rw [e', e]
      simp
      omega
  have hlt := wrd_lt h (b / 64)
  unfold hasBit
  rw [hw, show ((b : Int) % 64).toNat = b % 64 by omega, int_pow]
  rw [show ((wrd s (b / 64) : Int) / ((2 ^ (b % 64) : Nat) : Int)) = ((wrd s (b / 64) / 2 ^ (b % 64) : Nat) : Int) by simp]
  have hq : wrd s (b / 64) / 2 ^ (b % 64) < 18446744073709551616 := Nat.lt_of_le_of_lt (Nat.div_le_self _ _) (by simpa using hlt)
  unfold has
  rw [Nat.testBit_eq_decide_div_mod_eq]
  obtain ⟨q, hqq⟩ : ∃ q, wrd s (b / 64) / 2 ^ (b % 64) = q := ⟨_, rfl⟩
  rw [hqq] at hq ⊢
  rw [Go.Lib.u64_and1 _ (by omega) (by omega)]
  by_cases hx : q % 2 = 1
  · rw [decide_eq_true hx, show ((q : Int) % 2) = 1 by omega]; rfl
  · rw [decide_eq_false hx, show ((q : Int) % 2) = 0 by omega]; rfl
theorem ext4 {s t : S4} (hs : okS s) (ht : okS t) (h : ∀ b, b < 256 → has s b = has t b) : s = t := by
  have hk : ∀ k, k < 4 → wrd s k = wrd t k := by
    intro k hk
    apply Nat.eq_of_testBit_eq
    intro i
    by_cases hi : i < 64
    · have := h (k * 64 + i) (by omega)
      unfold has at this
      rw [show (k * 64 + i) / 64 = k by omega, show (k * 64 + i) % 64 = i by omega] at this
      exact this
    · rw [Nat.testBit_lt_two_pow (Nat.lt_of_lt_of_le (wrd_lt hs k) (Nat.pow_le_pow_right (by decide) (by omega))), Nat.testBit_lt_two_pow (Nat.lt_of_lt_of_le (wrd_lt ht k) (Nat.pow_le_pow_right (by decide) (by omega)))]
  have e0 := hk 0 (by decide)
  have e1 := hk 1 (by decide)
  have e2 := hk 2 (by decide)
  have e3 := hk 3 (by decide)
  simp only [wrd] at e0 e1 e2 e3
  obtain ⟨s0, s1, s2, s3⟩ := s
  obtain ⟨t0, t1, t2, t3⟩ := t
  simp only [okS, w64] at hs ht
  simp at e0 e1 e2 e3
  simp only [Prod.mk.injEq]
  omega
def addS (s : S4) (b : Int) : S4 := (orBit s.1 0 b, orBit s.2.1 1 b, orBit s.2.2.1 2 b, orBit s.2.2.2 3 b)
theorem w64_pow {m : Nat} (h : m < 64) : w64 ((2 : Int) ^ m) := by
  have h1 : (2 : Nat) ^ m < 2 ^ 64 := Nat.pow_lt_pow_right (by decide) h
  have h2 : (2 : Nat) ^ m ≥ 0 := Nat.zero_le _
  rw [int_pow]
  unfold w64
  omega
theorem orBit_nat {x : Int} (hx : w64 x) (k b : Nat) (hb : b < 256) : w64 (orBit x (k : Int) (b : Int)) ∧ (orBit x (k : Int) (b : Int)).toNat = if b / 64 = k then x.toNat ||| 2 ^ (b % 64) else x.toNat := by
  unfold orBit
  by_cases h : b / 64 = k
  · have h' : (b : Int) / 64 = (k : Int) := by omega
    rw [if_pos h', if_pos h]
    have hp := w64_pow (m := b % 64) (by omega)
    rw [show ((b : Int) % 64).toNat = b % 64 by omega, u64_or x _ hx.1 hx.2 hp.1 hp.2]
    have e : ((2 : Int) ^ (b % 64)).toNat = 2 ^ (b % 64) := by rw [int_pow]; exact Int.toNat_natCast _
    rw [e]
    have hlt : x.toNat ||| 2 ^ (b % 64) < 2 ^ 64 := Nat.or_lt_two_pow (by have := hx; unfold w64 at this; omega) (Nat.pow_lt_pow_right (by decide) (by omega))
    refine ⟨?_, Int.toNat_natCast _⟩
    unfold w64
    omega
  · rw [if_neg (by omega), if_neg h]
    exact ⟨hx, rfl⟩
theorem addS_ok {s : S4} (h : okS s) {b : Nat} (hb : b < 256) : okS (addS s b) :=
  ⟨(orBit_nat h.1 0 b hb).1, (orBit_nat h.2.1 1 b hb).1, (orBit_nat h.2.2.1 2 b hb).1, (orBit_nat h.2.2.2 3 b hb).1⟩
theorem addS_wrd {s : S4} (h : okS s) {b : Nat} (hb : b < 256) (k : Nat) (hk : k < 4) : wrd (addS s b) k = if b / 64 = k then wrd s k ||| 2 ^ (b % 64) else wrd s k := by
  have a0 := (orBit_nat h.1 0 b hb).2
  have a1 := (orBit_nat h.2.1 1 b hb).2
  have a2 := (orBit_nat h.2.2.1 2 b hb).2
  have a3 := (orBit_nat h.2.2.2 3 b hb).2
  rcases (by omega : k = 0 ∨ k = 1 ∨ k = 2 ∨ k = 3) with rfl | rfl | rfl | rfl
  · exact a0
  · exact a1
  · exact a2
  · exact a3
theorem has_addS {s : S4} (h : okS s) {b c : Nat} (hb : b < 256) (hc : c < 256) : has (addS s b) c = (has s c || decide (c = b)) := by
  unfold has
  rw [addS_wrd h hb _ (by omega)]
  by_cases e : b / 64 = c / 64
  · rw [if_pos e, Nat.testBit_or, Nat.testBit_two_pow]
    congr 1
    by_cases hcb : c = b
    · subst hcb; simp
    · rw [decide_eq_false hcb, decide_eq_false (by omega)]
  · rw [if_neg e, decide_eq_false (by omega), Bool.or_false]
def zeroS : S4 := (0, 0, 0, 0)
theorem zeroS_ok : okS zeroS := by simp [okS, zeroS, w64]
theorem has_zero (b : Nat) : has zeroS b = false := by
  unfold has wrd zeroS
  split
  · simp
  · split
    · simp
    · split <;> simp
def orS (s t : S4) : S4 := (Go.bits .or .u64 s.1 t.1, Go.bits .or .u64 s.2.1 t.2.1, Go.bits .or .u64 s.2.2.1 t.2.2.1, Go.bits .or .u64 s.2.2.2 t.2.2.2)
theorem or_nat {x y : Int} (hx : w64 x) (hy : w64 y) : w64 (Go.bits .or .u64 x y) ∧ (Go.bits .or .u64 x y).toNat = x.toNat ||| y.toNat := by
  rw [u64_or x y hx.1 hx.2 hy.1 hy.2]
  have hlt : x.toNat ||| y.toNat < 2 ^ 64 := Nat.or_lt_two_pow (by unfold w64 at hx; omega) (by unfold w64 at hy; omega)
  refine ⟨?_, Int.toNat_natCast _⟩
  unfold w64
  omega
theorem orS_ok {s t : S4} (hs : okS s) (ht : okS t) : okS (orS s t) := ⟨(or_nat hs.1 ht.1).1, (or_nat hs.2.1 ht.2.1).1, (or_nat hs.2.2.1 ht.2.2.1).1, (or_nat hs.2.2.2 ht.2.2.2).1⟩
theorem has_orS {s t : S4} (hs : okS s) (ht : okS t) {c : Nat} (hc : c < 256) : has (orS s t) c = (has s c || has t c) := by
  have a0 := (or_nat hs.1 ht.1).2
  have a1 := (or_nat hs.2.1 ht.2.1).2
  have a2 := (or_nat hs.2.2.1 ht.2.2.1).2
  have a3 := (or_nat hs.2.2.2 ht.2.2.2).2
  unfold has
  rw [← Nat.testBit_or]
  congr 1
  rcases (by omega : c / 64 = 0 ∨ c / 64 = 1 ∨ c / 64 = 2 ∨ c / 64 = 3) with e | e | e | e <;> rw [e]
  · exact a0
  · exact a1
  · exact a2
  · exact a3
def notS (s : S4) : S4 := (Go.bits .xor .u64 (-1) s.1, Go.bits .xor .u64 (-1) s.2.1, Go.bits .xor .u64 (-1) s.2.2.1, Go.bits .xor .u64 (-1) s.2.2.2)
def addL (s : S4) (l : List Nat) : S4 := l.foldl (fun (s : S4) (b : Nat) => addS s (b : Int)) s
theorem addL_ok {l : List Nat} (hl : ∀ b ∈ l, b < 256) : ∀ {s : S4}, okS s → okS (addL s l) := by
  induction l with
  | nil => intro s h; exact h
  | cons b l ih => intro s h; exact ih (fun c hc => hl c (List.mem_cons_of_mem _ hc)) (addS_ok h (hl b List.mem_cons_self))
theorem has_addL {l : List Nat} (hl : ∀ b ∈ l, b < 256) {c : Nat} (hc : c < 256) : ∀ {s : S4}, okS s → has (addL s l) c = (has s c || decide (c ∈ l)) := by
  induction l with
  | nil => intro s h; simp [addL]
  | cons b l ih =>
    intro s h
    have hb := hl b List.mem_cons_self
    show has (addL (addS s b) l) c = _
    rw [ih (fun c hc => hl c (List.mem_cons_of_mem _ hc)) (addS_ok h hb), has_addS h hb hc]
    simp [Bool.or_assoc, eq_comm]
end Go.Proofs.YtcmipoicnonaeaaDoor.F
end
section
namespace Go.Proofs.YtcmipoicnonaeaaDoor.F
open Go.RowKit Go.Proofs.YtcmipoicnonaeaaDoorW.PrintWords Go.Proofs.YtcmipoicnonaeaaDoorW.PrintLast Go.Proofs.YtcmipoicnonaeaaDoorW.PrintMore
attribute [local go_sem] max2_int min2_int max_two min_two max_three min_three max_four min_four
set_option linter.unusedVariables false
set_option linter.unusedSimpArgs false
end Go.Proofs.YtcmipoicnonaeaaDoor.F
end
section
namespace Go.Proofs.YtcmipoicnonaeaaDoor.F
open Go.RowKit Go.Proofs.YtcmipoicnonaeaaDoorW.PrintWords Go.Proofs.YtcmipoicnonaeaaDoorW.PrintLast Go.Proofs.YtcmipoicnonaeaaDoorW.PrintMore
attribute [local go_sem] max2_int min2_int max_two min_two max_three min_three max_four min_four
set_option linter.unusedVariables false
set_option linter.unusedSimpArgs false
def runnelref02_Members.l0 : Nat → List Int → Int → Int → Int → Int → Int → Option (List Int)
  | 0, _, _, _, _, _, _ => none
  | k + 1, x3, x4, x138000, x138001, x138002, x138003 => if x4 < 256 then ((runnelref02_Has.f x138000 x138001 x138002 x138003 x4).bind fun t138 => (if t138 = true then (if x3.length < 140737488355328 then (runnelref02_Members.l0 k (x3 ++ [(x4) % 256]) (wrap64 (x4 + 1)) x138000 x138001 x138002 x138003) else (none)) else (runnelref02_Members.l0 k x3 (wrap64 (x4 + 1)) x138000 x138001 x138002 x138003))) else (some x3)
def runnelref02_Members.f (k : Nat) (a0_0 : Int) (a0_1 : Int) (a0_2 : Int) (a0_3 : Int) : Option (List Int) := runnelref02_Members.l0 k ([] : List Int) 0 a0_0 a0_1 a0_2 a0_3
theorem runnelref02_Members.mono_l : ∀ k, (∀ y0 y1 y2 y3 y4 y5, LeO (runnelref02_Members.l0 k y0 y1 y2 y3 y4 y5) (runnelref02_Members.l0 (k + 1) y0 y1 y2 y3 y4 y5))
  | 0 => fun _ _ _ _ _ _ r h => by simp [runnelref02_Members.l0] at h
  | k + 1 => by
    have ih0 := runnelref02_Members.mono_l k
    · intro y0 y1 y2 y3 y4 y5
      unfold runnelref02_Members.l0
      repeat' first
      | (with_reducible exact ih0 _ _ _ _ _ _)
      | (with_reducible exact LeO.refl _)
      | (with_reducible exact LeO.none _)
      | (with_reducible refine LeO.ite ?_ ?_)
      | (with_reducible refine LeO.bind ?_ (fun _ => ?_))
      | exact ih0 _ _ _ _ _ _
      | exact LeO.none _
      | refine LeO.ite ?_ ?_
      | refine LeO.bind ?_ (fun _ => ?_)
theorem runnelref02_Members.mono : ∀ a0 a1 a2 a3 k, LeO (runnelref02_Members.f k a0 a1 a2 a3) (runnelref02_Members.f (k + 1) a0 a1 a2 a3) := by
  intro a0 a1 a2 a3 k
  have ih0 := runnelref02_Members.mono_l k
  unfold runnelref02_Members.f
  repeat' first
      | (with_reducible exact ih0 _ _ _ _ _ _)
      | (with_reducible exact LeO.refl _)
      | (with_reducible exact LeO.none _)
      | (with_reducible refine LeO.ite ?_ ?_)
      | (with_reducible refine LeO.bind ?_ (fun _ => ?_))
      | exact ih0 _ _ _ _ _ _
      | exact LeO.none _
      | refine LeO.ite ?_ ?_
      | refine LeO.bind ?_ (fun _ => ?_)
end Go.Proofs.YtcmipoicnonaeaaDoor.F
end
section
namespace Go.Proofs.YtcmipoicnonaeaaDoor.F
open Go.RowKit Go.Proofs.YtcmipoicnonaeaaDoorW.PrintWords Go.Proofs.YtcmipoicnonaeaaDoorW.PrintLast Go.Proofs.YtcmipoicnonaeaaDoorW.PrintMore
attribute [local go_sem] max2_int min2_int max_two min_two max_three min_three max_four min_four
set_option linter.unusedVariables false
set_option linter.unusedSimpArgs false
def runnelref02_DocSpan.l0 : Nat → Int → Int → Int → Int → Int → Int → Int → Option (Int × Int × Int × Int × Int)
  | 0, _, _, _, _, _, _, _ => none
  | k + 1, x0, x1, x7, x133000, x133001, x133002, x133003 => if x7 < 256 then (if x7 ≥ (wrap64 (x0)) then (if x7 ≤ (wrap64 (x1)) then ((runnelref02_With.f x133000 x133001 x133002 x133003 x7).bind fun bt133 => (runnelref02_DocSpan.l0 k x0 x1 (wrap64 (x7 + 1)) bt133.1 bt133.2.1 bt133.2.2.1 bt133.2.2.2)) else (runnelref02_DocSpan.l0 k x0 x1 (wrap64 (x7 + 1)) x133000 x133001 x133002 x133003)) else (runnelref02_DocSpan.l0 k x0 x1 (wrap64 (x7 + 1)) x133000 x133001 x133002 x133003)) else (some (x133000, x133001, x133002, x133003, 0))
def runnelref02_DocSpan.f (k : Nat) (a0 : Int) (a1 : Int) : Option (Int × Int × Int × Int × Int) := if a1 < a0 then (some (0, 0, 0, 0, 7)) else (runnelref02_DocSpan.l0 k a0 a1 0 0 0 0 0)
theorem runnelref02_DocSpan.mono_l : ∀ k, (∀ y0 y1 y2 y3 y4 y5 y6, LeO (runnelref02_DocSpan.l0 k y0 y1 y2 y3 y4 y5 y6) (runnelref02_DocSpan.l0 (k + 1) y0 y1 y2 y3 y4 y5 y6))
  | 0 => fun _ _ _ _ _ _ _ r h => by simp [runnelref02_DocSpan.l0] at h
  | k + 1 => by
    have ih0 := runnelref02_DocSpan.mono_l k
    · intro y0 y1 y2 y3 y4 y5 y6
      unfold runnelref02_DocSpan.l0
      repeat' first
      | (with_reducible exact ih0 _ _ _ _ _ _ _)
      | (with_reducible exact LeO.refl _)
      | (with_reducible exact LeO.none _)
      | (with_reducible refine LeO.ite ?_ ?_)
      | (with_reducible refine LeO.bind ?_ (fun _ => ?_))
      | exact ih0 _ _ _ _ _ _ _
      | exact LeO.none _
      | refine LeO.ite ?_ ?_
      | refine LeO.bind ?_ (fun _ => ?_)
theorem runnelref02_DocSpan.mono : ∀ a0 a1 k, LeO (runnelref02_DocSpan.f k a0 a1) (runnelref02_DocSpan.f (k + 1) a0 a1) := by
  intro a0 a1 k
  have ih0 := runnelref02_DocSpan.mono_l k
  unfold runnelref02_DocSpan.f
  repeat' first
      | (with_reducible exact ih0 _ _ _ _ _ _ _)
      | (with_reducible exact LeO.refl _)
      | (with_reducible exact LeO.none _)
      | (with_reducible refine LeO.ite ?_ ?_)
      | (with_reducible refine LeO.bind ?_ (fun _ => ?_))
      | exact ih0 _ _ _ _ _ _ _
      | exact LeO.none _
      | refine LeO.ite ?_ ?_
      | refine LeO.bind ?_ (fun _ => ?_)
end Go.Proofs.YtcmipoicnonaeaaDoor.F
end
section
namespace Go.Proofs.YtcmipoicnonaeaaDoor.F
open Go.RowKit Go.Proofs.YtcmipoicnonaeaaDoorW.PrintWords
set_option linter.unusedVariables false
set_option linter.unusedSimpArgs false
theorem With_eq (s : S4) {b : Int} (h0 : 0 ≤ b) (h1 : b < 256) : runnelref02_With.f s.1 s.2.1 s.2.2.1 s.2.2.2 b = some (addS s b) := by
  unfold runnelref02_With.f
  rw [if_pos ⟨h0, h1⟩]
  rfl
theorem Has_eq {s : S4} (h : okS s) {b : Nat} (hb : b < 256) : runnelref02_Has.f s.1 s.2.1 s.2.2.1 s.2.2.2 (b : Int) = some (has s b) := by
  unfold runnelref02_Has.f
  rw [if_pos (by omega), hasBit_eq h hb]
theorem wrap_succ {n : Nat} (h : n < 9223372036854775807) : wrap64 ((n : Int) + 1) = ((n + 1 : Nat) : Int) := by rw [wrap_id (by omega) (by omega)]; omega
theorem mem_range0 {c : Nat} (hc : c < 256) (p : Nat → Bool) : decide (c ∈ (List.range' 0 256).filter p) = p c := by
  have : c ∈ (List.range' 0 256).filter p ↔ p c = true := by
    rw [List.mem_filter, List.mem_range'_1]
    exact ⟨fun h => h.2, fun h => ⟨by omega, h⟩⟩
  rw [Bool.eq_iff_iff, decide_eq_true_iff]
  exact this
theorem filt_lt (p : Nat → Bool) : ∀ b ∈ (List.range' 0 256).filter p, b < 256 := by
  intro b hb
  have := (List.mem_filter.1 hb).1
  rw [List.mem_range'_1] at this
  omega
theorem Or_loop {s u : S4} (hs : okS s) (hu : okS u) : ∀ (n : Nat) (x : Nat) (t : S4), x + n = 256 → ∀ j, runnelref02_Or.l0 (n + 1 + j) (x : Int) s.1 s.2.1 s.2.2.1 s.2.2.2 u.1 u.2.1 u.2.2.1 u.2.2.2 t.1 t.2.1 t.2.2.1 t.2.2.2 = some (addL t ((List.range' x n).filter fun b => has s b || has u b))
  | 0, x, t, h, j => by
    rw [show 0 + 1 + j = j + 1 by omega, runnelref02_Or.l0, if_neg (by omega)]
    rfl
  | n + 1, x, t, h, j => by
    rw [show n + 1 + 1 + j = (n + 1 + j) + 1 by omega, runnelref02_Or.l0, if_pos (by omega), Has_eq hs (by omega), Option.bind_some, wrap_succ (by omega), List.range'_succ]
    cases hh : has s x with
    | true =>
      rw [if_pos rfl, With_eq t (by omega) (by omega), Option.bind_some, Or_loop hs hu n (x + 1) (addS t x) (by omega) j, List.filter_cons_of_pos (by simp [hh])]
      rfl
    | false =>
      rw [if_neg (by decide), Has_eq hu (by omega), Option.bind_some]
      cases hg : has u x with
      | true =>
        rw [if_pos rfl, With_eq t (by omega) (by omega), Option.bind_some, Or_loop hs hu n (x + 1) (addS t x) (by omega) j, List.filter_cons_of_pos (by simp [hg])]
        rfl
      | false => rw [if_neg (by decide), Or_loop hs hu n (x + 1) t (by omega) j, List.filter_cons_of_neg (by simp [hh, hg])]
theorem Or_eq {s u : S4} (hs : okS s) (hu : okS u) (j : Nat) : runnelref02_Or.f (257 + j) s.1 s.2.1 s.2.2.1 s.2.2.2 u.1 u.2.1 u.2.2.1 u.2.2.2 = some (orS s u) := by
  unfold runnelref02_Or.f
  have h := Or_loop hs hu 256 0 zeroS rfl j
  rw [show 256 + 1 + j = 257 + j by omega] at h
  refine h.trans (congrArg some ?_)
  refine ext4 (addL_ok (filt_lt _) zeroS_ok) (orS_ok hs hu) fun c hc => ?_
  rw [has_addL (filt_lt _) hc zeroS_ok, has_zero, mem_range0 hc, has_orS hs hu hc]
  rfl
theorem Members_loop {s : S4} (hs : okS s) : ∀ (n : Nat) (x : Nat) (l : List Int), x + n = 256 → l.length ≤ x → ∀ j, runnelref02_Members.l0 (n + 1 + j) l (x : Int) s.1 s.2.1 s.2.2.1 s.2.2.2 = some (l ++ ((List.range' x n).filter (has s)).map (fun (b : Nat) => (b : Int)))
  | 0, x, l, h, _, j => by
    rw [show 0 + 1 + j = j + 1 by omega, runnelref02_Members.l0, if_neg (by omega)]
    simp
  | n + 1, x, l, h, hl, j => by
    rw [show n + 1 + 1 + j = (n + 1 + j) + 1 by omega, runnelref02_Members.l0, if_pos (by omega), Has_eq hs (by omega), Option.bind_some, wrap_succ (by omega), List.range'_succ]
    cases hh : has s x with
    | true =>
      rw [if_pos rfl, if_pos (by omega), Members_loop hs n (x + 1) _ (by omega) (by simp; omega) j, List.filter_cons_of_pos hh]
      simp
      omega
    | false =>
      rw [if_neg (by decide), Members_loop hs n (x + 1) _ (by omega) (by omega) j, List.filter_cons_of_neg (by simp [hh])]
def memN (s : S4) : List Nat := (List.range' 0 256).filter (has s)
theorem Members_eq {s : S4} (hs : okS s) (j : Nat) : runnelref02_Members.f (257 + j) s.1 s.2.1 s.2.2.1 s.2.2.2 = some ((memN s).map (fun (b : Nat) => (b : Int))) := by
  have h := Members_loop hs 256 0 [] rfl (by simp) j
  rw [show 256 + 1 + j = 257 + j by omega] at h
  exact h
theorem orBytes_eq : ∀ (l : List UInt8) (s : S4), orBytes l s = addL s (l.map UInt8.toNat)
  | [], s => rfl
  | b :: l, s => orBytes_eq l _
theorem bytes_lt (l : List UInt8) : ∀ b ∈ l.map UInt8.toNat, b < 256 := by
  intro b hb
  obtain ⟨c, _, rfl⟩ := List.mem_map.1 hb
  exact c.toNat_lt
def ofS (a : ByteArray) : S4 := addL zeroS (a.data.toList.map UInt8.toNat)
theorem bOf_eq {a : ByteArray} (h : a.size ≤ 9223372036854775807) : bset_Of.f a = some (ofS a) := by
  unfold bset_Of.f
  rw [if_pos h, orBytes_eq]
  rfl
theorem Of_loop (a : ByteArray) (h : a.size < 9223372036854775807) : ∀ (n : Nat) (x : Nat) (t : S4), x + n = a.size → ∀ j, runnelref02_Of.l0 (n + 1 + j) a (x : Int) t.1 t.2.1 t.2.2.1 t.2.2.2 = some (addL t ((a.data.toList.drop x).map UInt8.toNat))
  | 0, x, t, hx, j => by
    rw [show 0 + 1 + j = j + 1 by omega, runnelref02_Of.l0, if_neg (by omega), List.drop_eq_nil_of_le (by simp; omega)]
    rfl
  | n + 1, x, t, hx, j => by
    have hb := bt_range a (x : Int)
    have hlt : x < a.size := by omega
    rw [show n + 1 + 1 + j = (n + 1 + j) + 1 by omega, runnelref02_Of.l0, if_pos (by omega), if_pos (by omega), wrap_id (by omega) (by omega), With_eq t (by omega) (by omega), Option.bind_some, wrap_succ (by omega), Of_loop a h n (x + 1) _ (by omega) j, drop_cons_ hlt]
    have e : bt a (x : Int) = ((a[x].toNat : Nat) : Int) := (bt_at a x (by simpa using hlt)).symm
    rw [e]
    rfl
theorem Of_eq {a : ByteArray} (h : a.size < 9223372036854775807) (j : Nat) : runnelref02_Of.f (a.size + 1 + j) a = some (ofS a) := by
  have := Of_loop a h a.size 0 zeroS (by omega) j
  exact this
end Go.Proofs.YtcmipoicnonaeaaDoor.F
end
section
namespace Go.Proofs.YtcmipoicnonaeaaDoor.F
open Go.RowKit Go.Proofs.YtcmipoicnonaeaaDoorW.PrintWords Go.Proofs.YtcmipoicnonaeaaDoorW.PrintLast Go.Proofs.YtcmipoicnonaeaaDoorW.PrintMore
attribute [local go_sem] max2_int min2_int max_two min_two max_three min_three max_four min_four
set_option linter.unusedVariables false
set_option linter.unusedSimpArgs false
end Go.Proofs.YtcmipoicnonaeaaDoor.F
end
section
namespace Go.Proofs.YtcmipoicnonaeaaDoor.F
open Go.RowKit Go.Proofs.YtcmipoicnonaeaaDoorW.PrintWords Go.Proofs.YtcmipoicnonaeaaDoorW.PrintLast Go.Proofs.YtcmipoicnonaeaaDoorW.PrintMore
attribute [local go_sem] max2_int min2_int max_two min_two max_three min_three max_four min_four
set_option linter.unusedVariables false
set_option linter.unusedSimpArgs false
def runnelref02_text.f (a0 : ByteArray) : Option (ByteArray) := if a0.toList = ([100, 105, 103, 105, 116] : List UInt8) then (some (⟨#[48, 49, 50, 51, 52, 53, 54, 55, 56, 57]⟩ : ByteArray)) else (if a0.toList = ([117, 112, 112, 101, 114] : List UInt8) then (some (⟨#[65, 66, 67, 68, 69, 70, 71, 72, 73, 74, 75, 76, 77, 78, 79, 80, 81, 82, 83, 84, 85, 86, 87, 88, 89, 90]⟩ : ByteArray)) else (if a0.toList = ([108, 111, 119, 101, 114] : List UInt8) then (some (⟨#[97, 98, 99, 100, 101, 102, 103, 104, 105, 106, 107, 108, 109, 110, 111, 112, 113, 114, 115, 116, 117, 118, 119, 120, 121, 122]⟩ : ByteArray)) else (if a0.toList = ([97, 108, 112, 104, 97] : List UInt8) then (some (⟨#[65, 66, 67, 68, 69, 70, 71, 72, 73, 74, 75, 76, 77, 78, 79, 80, 81, 82, 83, 84, 85, 86, 87, 88, 89, 90, 97, 98, 99, 100, 101, 102, 103, 104, 105, 106, 107, 108, 109, 110, 111, 112, 113, 114, 115, 116, 117, 118, 119, 120, 121, 122]⟩ : ByteArray)) else (if a0.toList = ([97, 108, 110, 117, 109] : List UInt8) then (some (⟨#[65, 66, 67, 68, 69, 70, 71, 72, 73, 74, 75, 76, 77, 78, 79, 80, 81, 82, 83, 84, 85, 86, 87, 88, 89, 90, 97, 98, 99, 100, 101, 102, 103, 104, 105, 106, 107, 108, 109, 110, 111, 112, 113, 114, 115, 116, 117, 118, 119, 120, 121, 122, 48, 49, 50, 51, 52, 53, 54, 55, 56, 57]⟩ : ByteArray)) else (if a0.toList = ([120, 100, 105, 103, 105, 116] : List UInt8) then (some (⟨#[48, 49, 50, 51, 52, 53, 54, 55, 56, 57, 65, 66, 67, 68, 69, 70, 97, 98, 99, 100, 101, 102]⟩ : ByteArray)) else (if a0.toList = ([98, 108, 97, 110, 107] : List UInt8) then (some (⟨#[32, 9]⟩ : ByteArray)) else (if a0.toList = ([115, 112, 97, 99, 101] : List UInt8) then (some (⟨#[32, 9, 10, 11, 12, 13]⟩ : ByteArray)) else (if a0.toList = ([112, 117, 110, 99, 116] : List UInt8) then (some (⟨#[33, 34, 35, 36, 37, 38, 39, 40, 41, 42, 43, 44, 45, 46, 47, 58, 59, 60, 61, 62, 63, 64, 91, 92, 93, 94, 95, 96, 123, 124, 125, 126]⟩ : ByteArray)) else (if a0.toList = ([103, 114, 97, 112, 104] : List UInt8) then (some (⟨#[33, 34, 35, 36, 37, 38, 39, 40, 41, 42, 43, 44, 45, 46, 47, 58, 59, 60, 61, 62, 63, 64, 91, 92, 93, 94, 95, 96, 123, 124, 125, 126, 65, 66, 67, 68, 69, 70, 71, 72, 73, 74, 75, 76, 77, 78, 79, 80, 81, 82, 83, 84, 85, 86, 87, 88, 89, 90, 97, 98, 99, 100, 101, 102, 103, 104, 105, 106, 107, 108, 109, 110, 111, 112, 113, 114, 115, 116, 117, 118, 119, 120, 121, 122, 48, 49, 50, 51, 52, 53, 54, 55, 56, 57]⟩ : ByteArray)) else (if a0.toList = ([112, 114, 105, 110, 116] : List UInt8) then (some (⟨#[33, 34, 35, 36, 37, 38, 39, 40, 41, 42, 43, 44, 45, 46, 47, 58, 59, 60, 61, 62, 63, 64, 91, 92, 93, 94, 95, 96, 123, 124, 125, 126, 65, 66, 67, 68, 69, 70, 71, 72, 73, 74, 75, 76, 77, 78, 79, 80, 81, 82, 83, 84, 85, 86, 87, 88, 89, 90, 97, 98, 99, 100, 101, 102, 103, 104, 105, 106, 107, 108, 109, 110, 111, 112, 113, 114, 115, 116, 117, 118, 119, 120, 121, 122, 48, 49, 50, 51, 52, 53, 54, 55, 56, 57, 32]⟩ : ByteArray)) else (some (⟨#[]⟩ : ByteArray))))))))))))
end Go.Proofs.YtcmipoicnonaeaaDoor.F
end
section
namespace Go.Proofs.YtcmipoicnonaeaaDoor.F
open Go.RowKit Go.Proofs.YtcmipoicnonaeaaDoorW.PrintWords Go.Proofs.YtcmipoicnonaeaaDoorW.PrintLast Go.Proofs.YtcmipoicnonaeaaDoorW.PrintMore
attribute [local go_sem] max2_int min2_int max_two min_two max_three min_three max_four min_four
set_option linter.unusedVariables false
set_option linter.unusedSimpArgs false
def runnelref02_Count.f (k : Nat) (a0_0 : Int) (a0_1 : Int) (a0_2 : Int) (a0_3 : Int) : Option (Int) := (runnelref02_Members.f k a0_0 a0_1 a0_2 a0_3).bind fun t143 => (some (t143.length : Int))
theorem runnelref02_Count.mono : ∀ a0 a1 a2 a3 k, LeO (runnelref02_Count.f k a0 a1 a2 a3) (runnelref02_Count.f (k + 1) a0 a1 a2 a3) := by
  intro a0 a1 a2 a3 k
  unfold runnelref02_Count.f
  repeat' first
      | (with_reducible exact runnelref02_Members.mono _ _ _ _ _)
      | (with_reducible exact LeO.refl _)
      | (with_reducible exact LeO.none _)
      | (with_reducible refine LeO.ite ?_ ?_)
      | (with_reducible refine LeO.bind ?_ (fun _ => ?_))
      | exact runnelref02_Members.mono _ _ _ _ _
      | exact LeO.none _
      | refine LeO.ite ?_ ?_
      | refine LeO.bind ?_ (fun _ => ?_)
end Go.Proofs.YtcmipoicnonaeaaDoor.F
end
section
namespace Go.Proofs.YtcmipoicnonaeaaDoor.F
open Go.RowKit Go.Proofs.YtcmipoicnonaeaaDoorW.PrintWords Go.Proofs.YtcmipoicnonaeaaDoorW.PrintLast Go.Proofs.YtcmipoicnonaeaaDoorW.PrintMore
attribute [local go_sem] max2_int min2_int max_two min_two max_three min_three max_four min_four
set_option linter.unusedVariables false
set_option linter.unusedSimpArgs false
def runnelref02_DocClass.f (k : Nat) (a0 : ByteArray) : Option (Int × Int × Int × Int × Int) := if a0.toList = ([99, 110, 116, 114, 108] : List UInt8) then ((runnelref02_DocSpan.f k 0 31).bind fun bt147 => ((runnelref02_With.f bt147.1 bt147.2.1 bt147.2.2.1 bt147.2.2.2.1 127).bind fun bt153 => (some (bt153.1, bt153.2.1, bt153.2.2.1, bt153.2.2.2, 0)))) else ((runnelref02_text.f a0).bind fun t157 => ((runnelref02_Of.f k t157).bind fun bt158 => ((runnelref02_Count.f k bt158.1 bt158.2.1 bt158.2.2.1 bt158.2.2.2).bind fun t163 => (if t163 = 0 then (some (bt158.1, bt158.2.1, bt158.2.2.1, bt158.2.2.2, 8)) else (some (bt158.1, bt158.2.1, bt158.2.2.1, bt158.2.2.2, 0))))))
theorem runnelref02_DocClass.mono : ∀ a0 k, LeO (runnelref02_DocClass.f k a0) (runnelref02_DocClass.f (k + 1) a0) := by
  intro a0 k
  unfold runnelref02_DocClass.f
  repeat' first
      | (with_reducible exact runnelref02_Count.mono _ _ _ _ _)
      | (with_reducible exact runnelref02_DocSpan.mono _ _ _)
      | (with_reducible exact runnelref02_Of.mono _ _)
      | (with_reducible exact LeO.refl _)
      | (with_reducible exact LeO.none _)
      | (with_reducible refine LeO.ite ?_ ?_)
      | (with_reducible refine LeO.bind ?_ (fun _ => ?_))
      | exact runnelref02_Count.mono _ _ _ _ _
      | exact runnelref02_DocSpan.mono _ _ _
      | exact runnelref02_Of.mono _ _
      | exact LeO.none _
      | refine LeO.ite ?_ ?_
      | refine LeO.bind ?_ (fun _ => ?_)
end Go.Proofs.YtcmipoicnonaeaaDoor.F
end
section
namespace Go.Proofs.YtcmipoicnonaeaaDoor.F
open Go.RowKit Go.Proofs.YtcmipoicnonaeaaDoorW.PrintWords Go.Proofs.YtcmipoicnonaeaaDoorW.PrintLast Go.Proofs.YtcmipoicnonaeaaDoorW.PrintMore
attribute [local go_sem] max2_int min2_int max_two min_two max_three min_three max_four min_four
set_option linter.unusedVariables false
set_option linter.unusedSimpArgs false
end Go.Proofs.YtcmipoicnonaeaaDoor.F
end
section
namespace Go.Proofs.YtcmipoicnonaeaaDoor.F
open Go.RowKit Go.Proofs.YtcmipoicnonaeaaDoorW.PrintWords Go.Proofs.YtcmipoicnonaeaaDoorW.PrintLast Go.Proofs.YtcmipoicnonaeaaDoorW.PrintMore
attribute [local go_sem] max2_int min2_int max_two min_two max_three min_three max_four min_four
set_option linter.unusedVariables false
set_option linter.unusedSimpArgs false
end Go.Proofs.YtcmipoicnonaeaaDoor.F
end
section
namespace Go.Proofs.YtcmipoicnonaeaaDoor.F
open Go.RowKit Go.Proofs.YtcmipoicnonaeaaDoorW.PrintWords Go.Proofs.YtcmipoicnonaeaaDoorW.PrintLast Go.Proofs.YtcmipoicnonaeaaDoorW.PrintMore
attribute [local go_sem] max2_int min2_int max_two min_two max_three min_three max_four min_four
set_option linter.unusedVariables false
set_option linter.unusedSimpArgs false
end Go.Proofs.YtcmipoicnonaeaaDoor.F
end
section
namespace Go.Proofs.YtcmipoicnonaeaaDoor.F
open Go.RowKit Go.Proofs.YtcmipoicnonaeaaDoorW.PrintWords
set_option linter.unusedVariables false
set_option linter.unusedSimpArgs false
theorem bt_get {s : ByteArray} {i : Nat} (h : i < s.size) : bt s (i : Int) = (s[i].toNat : Int) := (bt_at s i (by simpa using h)).symm
end Go.Proofs.YtcmipoicnonaeaaDoor.F
end
section
namespace Go.Proofs.YtcmipoicnonaeaaDoor.F
open Go.RowKit Go.Proofs.YtcmipoicnonaeaaDoorW.PrintWords
set_option linter.unusedVariables false
set_option linter.unusedSimpArgs false
def classNames : List (List UInt8) := [[97, 108, 112, 104, 97], [100, 105, 103, 105, 116], [97, 108, 110, 117, 109], [117, 112, 112, 101, 114], [108, 111, 119, 101, 114], [115, 112, 97, 99, 101], [98, 108, 97, 110, 107], [103, 114, 97, 112, 104], [112, 114, 105, 110, 116], [112, 117, 110, 99, 116], [99, 110, 116, 114, 108], [120, 100, 105, 103, 105, 116]]
def okB (s : S4) : Bool := decide (0 ≤ s.1 ∧ s.1 < 18446744073709551616) && decide (0 ≤ s.2.1 ∧ s.2.1 < 18446744073709551616) && decide (0 ≤ s.2.2.1 ∧ s.2.2.1 < 18446744073709551616) && decide (0 ≤ s.2.2.2 ∧ s.2.2.2 < 18446744073709551616)
theorem okB_ok {s : S4} (h : okB s = true) : okS s := by
  simp only [okB, Bool.and_eq_true, decide_eq_true_eq] at h
  exact ⟨h.1.1.1, h.1.1.2, h.1.2, h.2⟩
def classOne (n : List UInt8) : Bool := match bset_Class.f ⟨n.toArray⟩, runnelref02_DocClass.f 300 ⟨n.toArray⟩ with
  | some x, some y => x == y && x.2.2.2.2 == 0 && okB (x.1, x.2.1, x.2.2.1, x.2.2.2.1)
  | _, _ => false
theorem class_all : classNames.all classOne = true := by kernel_rfl
theorem mono_up {α : Type} {f : Nat → Option α} (hm : ∀ k, LeO (f k) (f (k + 1))) {k : Nat} {r : α} (h : f k = some r) (j : Nat) : f (k + j) = some r := by
  induction j with
  | zero => exact h
  | succ j ih => exact hm (k + j) r ih
theorem class_eq (n : ByteArray) : ∃ (s : S4) (e : Int), okS s ∧ bset_Class.f n = some (s.1, s.2.1, s.2.2.1, s.2.2.2, e) ∧ ∀ j, runnelref02_DocClass.f (300 + j) n = some (s.1, s.2.1, s.2.2.1, s.2.2.2, e) := by
  have hn : n = ⟨n.toList.toArray⟩ := by rw [Lib.toList_data]
  by_cases hm : n.toList ∈ classNames
  · have h := List.all_eq_true.1 class_all _ hm
    unfold classOne at h
    rw [← hn] at h
    split at h
    · rename_i x y hx hy
      simp only [Bool.and_eq_true, beq_iff_eq] at h
      obtain ⟨⟨hxy, he⟩, ho⟩ := h
      subst hxy
      exact ⟨(x.1, x.2.1, x.2.2.1, x.2.2.2.1), x.2.2.2.2, okB_ok ho, hx, fun j => mono_up (runnelref02_DocClass.mono n) hy j⟩
    · cases h
  · simp only [classNames, List.mem_cons, List.not_mem_nil, or_false, not_or] at hm
    obtain ⟨h1, h2, h3, h4, h5, h6, h7, h8, h9, h10, h11, h12⟩ := hm
    refine ⟨zeroS, 8, zeroS_ok, ?_, fun j => ?_⟩
    · unfold bset_Class.f
      rw [show 256 = 255 + 1 from rfl, classL]
      have : bset_is.f 20 n 0 = some (false, false) := by
        simp [bset_is.f, bset_is.j0, bset_is.j1, h1, h2, h3, h4, h5, h6, h7, h8, h9, h10, h11, h12]
      rw [this]
      rfl
    · unfold runnelref02_DocClass.f
      rw [if_neg h11]
      have ht : runnelref02_text.f n = some ⟨#[]⟩ := by
        simp [runnelref02_text.f, h1, h2, h3, h4, h5, h6, h7, h8, h9, h10, h12]
      rw [ht, Option.bind_some]
      have ho := Of_eq (a := ⟨#[]⟩) (by decide) (299 + j)
      rw [show (⟨#[]⟩ : ByteArray).size + 1 + (299 + j) = 300 + j by show 0 + 1 + (299 + j) = 300 + j; omega] at ho
      rw [ho, Option.bind_some]
      unfold runnelref02_Count.f
      have hz : ofS ⟨#[]⟩ = zeroS := rfl
      have hm := Members_eq zeroS_ok (43 + j)
      rw [show 257 + (43 + j) = 300 + j by omega] at hm
      have hmn : memN zeroS = [] := List.filter_eq_nil_iff.2 (fun c hc => by rw [has_zero]; decide)
      rw [hmn] at hm
      rw [hz, hm]
      rfl
def dashAt (s : ByteArray) (p : Nat) : Bool := decide (p < s.size) && (bt s (p : Int) == 45) && (decide (s.size ≤ p + 1) || (bt s ((p + 1 : Nat) : Int) != 93))
theorem dash_b (s : ByteArray) (hs : s.size < 4294967296) (p : Nat) (e : Int) : bracket_reader_dash.f s (p : Int) e = some (dashAt s p, s, (p : Int), e) := by
  unfold bracket_reader_dash.f dashAt
  by_cases h : p < s.size
  · rw [if_pos (by omega), if_pos (by omega), wrap_succ (by omega)]
    by_cases h1 : bt s (p : Int) = 45
    · rw [if_pos h1]
      by_cases h2 : s.size ≤ p + 1
      · rw [if_pos (by omega)]
        simp [h, h1, h2]
      · rw [if_neg (by omega), if_pos (by omega), if_pos (by omega)]
        simp [h, h1, h2]
    · rw [if_neg h1]
      simp [h1]
  · rw [if_neg (by omega)]
    simp [h]
theorem orSpan_eq : ∀ (n : Nat) (b : Nat) (s : S4), orSpan n (b : Int) s = addL s (List.range' b n)
  | 0, b, s => rfl
  | n + 1, b, s => by
    rw [orSpan, List.range'_succ, show (b : Int) + 1 = ((b + 1 : Nat) : Int) by omega, orSpan_eq n (b + 1)]
    rfl
end Go.Proofs.YtcmipoicnonaeaaDoor.F
end
section
namespace Go.Proofs.YtcmipoicnonaeaaDoor.F
open Go.RowKit Go.Proofs.YtcmipoicnonaeaaDoorW.PrintWords
set_option linter.unusedVariables false
set_option linter.unusedSimpArgs false
theorem ext_drop (s : ByteArray) (a : Nat) : (s.extract a s.size).data.toList = s.data.toList.drop a := by
  rw [Lib.extract_data, List.take_of_length_le (by simp)]
theorem u8_of {m : Int} (h : 0 ≤ m ∧ m < 256) : ((m.toNat.toUInt8).toNat : Int) = m := by
  simp only [Nat.toUInt8, UInt8.toNat_ofNat']
  omega
theorem nums2 {m : Int} (h : 0 ≤ m ∧ m < 256) : (strOfNums [m, 93]).data.toList = [m.toNat.toUInt8, 93] := by
  have := strOf_bts_list [m.toNat.toUInt8, 93]
  rw [show bts [m.toNat.toUInt8, 93] = [m, 93] by simp only [bts, List.map_cons, List.map_nil, u8_of h]; rfl] at this
  exact this
theorem nums1 {m : Int} (h : 0 ≤ m ∧ m < 256) : (strOfNums [m]).data.toList = [m.toNat.toUInt8] := by
  have := strOf_bts_list [m.toNat.toUInt8]
  rw [show bts [m.toNat.toUInt8] = [m] by simp only [bts, List.map_cons, List.map_nil, u8_of h]] at this
  exact this
theorem bt_ok (s : ByteArray) (p : Int) : 0 ≤ bt s p ∧ bt s p < 256 := by have := bt_range s p; omega
theorem mark_all : ((List.range 256).all fun n => decide (Lib.indexByte [46, 61, 58] n.toUInt8 < 0) == !(n == 46 || n == 61 || n == 58)) = true := by kernel_rfl
theorem mark_eq {m : Int} (h : 0 ≤ m ∧ m < 256) : decide (Lib.indexByte [46, 61, 58] m.toNat.toUInt8 < 0) = !(m == 46 || m == 61 || m == 58) := by
  have := beq_iff_eq.1 (List.all_eq_true.1 mark_all m.toNat (List.mem_range.2 (by omega)))
  rw [this]
  obtain ⟨n, rfl⟩ := Int.eq_ofNat_of_zero_le h.1
  have e : ∀ c : Nat, ((n : Int) == (c : Int)) = (n == c) := fun c => by
    rw [Bool.eq_iff_iff, beq_iff_eq, beq_iff_eq]; omega
  show (!(((n : Int)).toNat == 46 || ((n : Int)).toNat == 61 || ((n : Int)).toNat == 58)) = !(((n : Int) == ((46 : Nat) : Int)) || ((n : Int) == ((61 : Nat) : Int)) || ((n : Int) == ((58 : Nat) : Int)))
  rw [e 46, e 61, e 58]
  rfl
end Go.Proofs.YtcmipoicnonaeaaDoor.F
end
section
namespace Go.Proofs.YtcmipoicnonaeaaDoor.F
open Go.RowKit Go.Proofs.YtcmipoicnonaeaaDoorW.PrintWords Go.Proofs.YtcmipoicnonaeaaDoorW.PrintLast
set_option linter.unusedVariables false
set_option linter.unusedSimpArgs false
theorem dashAt_lt {s : ByteArray} {p : Nat} (h : dashAt s p = true) : p < s.size := by
  unfold dashAt at h
  simp only [Bool.and_eq_true, decide_eq_true_eq] at h
  exact h.1.1
end Go.Proofs.YtcmipoicnonaeaaDoor.F
end
section
namespace Go.Proofs.YtcmipoicnonaeaaDoor.F
open Go.RowKit Go.Proofs.YtcmipoicnonaeaaDoorW.PrintWords Go.Proofs.YtcmipoicnonaeaaDoorW.PrintLast
set_option linter.unusedVariables false
set_option linter.unusedSimpArgs false
def ofL (l : List UInt8) : S4 := addL zeroS (l.map UInt8.toNat)
theorem ofL_ok (l : List UInt8) : okS (ofL l) := addL_ok (bytes_lt _) zeroS_ok
theorem ofS_ofL (a : ByteArray) : ofS a = ofL a.data.toList := rfl
def isMark (m : UInt8) : Bool := m == 46 || m == 61 || m == 58
def clsL (n : List UInt8) : Option S4 := match bset_Class.f ⟨n.toArray⟩ with
  | some u => if u.2.2.2.2 = 0 then some (u.1, u.2.1, u.2.2.1, u.2.2.2.1) else none
  | none => none
def namedL (m : UInt8) (tl : List UInt8) : Option (S4 × Nat × Bool × Nat) :=
  if Lib.index (tl.drop 1) [m, 93] < 0 then none
  else if m = 58 then (clsL (tl.take ((Lib.index (tl.drop 1) [m, 93]).toNat + 1))).map fun t => (t, 0, false, (Lib.index (tl.drop 1) [m, 93]).toNat + 5)
  else if (Lib.index (tl.drop 1) [m, 93]).toNat = 0 then some (ofL (tl.take 1), (tl.headD 0).toNat, m == 46, 5) else none
def itemL : List UInt8 → Option (S4 × Nat × Bool × Nat)
  | [] => none
  | [b] => some (ofL [b], b.toNat, true, 1)
  | b :: m :: tl => if b ≠ 91 ∨ isMark m = false then some (ofL [b], b.toNat, true, 1) else namedL m tl
def dashL : List UInt8 → Bool
  | [] => false
  | [c] => c == 45
  | c :: d :: _ => c == 45 && d != 93
def spanL (l : List UInt8) : Option (S4 × Nat) :=
  match itemL l with
  | none => none
  | some (t, b, g, n) => if dashL (l.drop n) = false then some (t, n) else if g = false then none else
    match itemL (l.drop (n + 1)) with
    | none => none
    | some (u, c, g2, n2) => if g2 = false ∨ c < b ∨ dashL (l.drop (n + 1 + n2)) = true then none else some (addL zeroS (List.range' b (c - b + 1)), n + 1 + n2)
theorem u8_bt {s : ByteArray} {p : Nat} (h : p < s.size) : (bt s (p : Int)).toNat.toUInt8 = s[p] := by
  rw [bt_get h]
  simp
theorem dash_L (s : ByteArray) (p : Nat) : dashAt s p = dashL (s.data.toList.drop p) := by
  unfold dashAt
  by_cases h : p < s.size
  · rw [drop_cons_ h, bt_get h]
    have e1 : ((s[p].toNat : Int) == 45) = (s[p] == 45) := by
      rw [Bool.eq_iff_iff, beq_iff_eq, beq_iff_eq]
      constructor
      · intro e; apply UInt8.toNat_inj.1; show _ = 45; omega
      · intro e; rw [e]; rfl
    by_cases h1 : p + 1 < s.size
    · rw [drop_cons_ h1, bt_get h1, dashL, e1]
      have e2 : ((s[p + 1].toNat : Int) != 93) = (s[p + 1] != 93) := by
        rw [Bool.eq_iff_iff, bne_iff_ne, bne_iff_ne]
        constructor
        · intro e q; rw [q] at e; exact e rfl
        · intro e q; apply e; apply UInt8.toNat_inj.1; show _ = 93; omega
      rw [e2, decide_eq_true h, decide_eq_false (show ¬ s.size ≤ p + 1 by omega)]
      simp
    · rw [List.drop_eq_nil_of_le (show s.data.toList.length ≤ p + 1 by rw [← size_list]; omega), dashL, e1, decide_eq_true h, decide_eq_true (show s.size ≤ p + 1 by omega)]
      simp
  · rw [List.drop_eq_nil_of_le (by rw [← size_list]; omega), decide_eq_false h]
    rfl
theorem plain_L {s : ByteArray} (hs : s.size < 4294967281) {p : Nat} (hp : p < s.size) (hpl : plainAt s (p : Int) = true) :
    bracket_reader_item.f s (p : Int) 0 = some ((ofL [s[p]]).1, (ofL [s[p]]).2.1, (ofL [s[p]]).2.2.1, (ofL [s[p]]).2.2.2, (s[p].toNat : Int), true, s, ((p + 1 : Nat) : Int), 0) := by
  have hb0 := bt_ok s (p : Int)
  unfold bracket_reader_item.f
  rw [if_pos (by omega), if_pos hpl, bOf_eq (by rw [size_list, nums1 hb0]; simp), Option.bind_some, ofS_ofL, nums1 hb0, u8_bt hp, bt_get hp]
  rfl
theorem cls_L (nm : ByteArray) : (∃ t : S4, okS t ∧ clsL nm.data.toList = some t ∧ bset_Class.f nm = some (t.1, t.2.1, t.2.2.1, t.2.2.2, 0)) ∨ (clsL nm.data.toList = none ∧ ∃ t1 t2 t3 t4 e : Int, e ≠ 0 ∧ bset_Class.f nm = some (t1, t2, t3, t4, e)) := by
  obtain ⟨t, e, hto, hcb, -⟩ := class_eq nm
  have hn : (⟨nm.data.toList.toArray⟩ : ByteArray) = nm := rfl
  by_cases he : e = 0
  · subst he
    refine .inl ⟨t, hto, ?_, hcb⟩
    unfold clsL
    rw [hn, hcb]
    rfl
  · refine .inr ⟨?_, _, _, _, _, e, he, hcb⟩
    unfold clsL
    rw [hn, hcb]
    exact if_neg he
theorem plain_flag {s : ByteArray} {p : Nat} (hp1 : p + 1 < s.size) : plainAt s (p : Int) = (s[p] != 91 || !isMark s[p + 1]) := by
  have hm := bt_ok s ((p + 1 : Nat) : Int)
  unfold plainAt
  rw [decide_eq_false (show ¬ (s.size : Int) ≤ (p : Int) + 1 by omega), Bool.or_false, show (p : Int) + 1 = ((p + 1 : Nat) : Int) by omega, mark_eq hm, bt_get hp1, bt_get (show p < s.size by omega)]
  have e0 : ∀ (b c : UInt8), ((b.toNat : Int) == (c.toNat : Int)) = (b == c) := fun b c => by
    rw [Bool.eq_iff_iff, beq_iff_eq, beq_iff_eq]
    constructor
    · intro e; apply UInt8.toNat_inj.1; omega
    · intro e; rw [e]
  have e1 : ((s[p].toNat : Int) != 91) = (s[p] != 91) := by
    show (!((s[p].toNat : Int) == ((91 : UInt8).toNat : Int))) = !(s[p] == 91)
    rw [e0]
  rw [e1]
  congr 2
  show (((s[p + 1].toNat : Int) == ((46 : UInt8).toNat : Int)) || ((s[p + 1].toNat : Int) == ((61 : UInt8).toNat : Int)) || ((s[p + 1].toNat : Int) == ((58 : UInt8).toNat : Int))) = _
  rw [e0, e0, e0]
  rfl
set_option maxHeartbeats 1000000 in
theorem item_L (s : ByteArray) (hs : s.size < 4294967281) {p : Nat} (hp : p < s.size) :
    (itemL (s.data.toList.drop p) = none ∧ ∃ e : Int, e ≠ 0 ∧ ∃ t1 t2 t3 t4 b q : Int, ∃ g : Bool, bracket_reader_item.f s (p : Int) 0 = some (t1, t2, t3, t4, b, g, s, q, e)) ∨
    (∃ (t : S4) (b : Nat) (g : Bool) (n : Nat), itemL (s.data.toList.drop p) = some (t, b, g, n) ∧ okS t ∧ b < 256 ∧ 0 < n ∧ p + n ≤ s.size ∧ bracket_reader_item.f s (p : Int) 0 = some (t.1, t.2.1, t.2.2.1, t.2.2.2, (b : Int), g, s, ((p + n : Nat) : Int), 0)) := by
  by_cases hp1 : p + 1 < s.size
  rotate_left
  · refine .inr ⟨ofL [s[p]], s[p].toNat, true, 1, ?_, ofL_ok _, s[p].toNat_lt, by omega, by omega, plain_L hs hp ?_⟩
    · rw [drop_cons_ hp, List.drop_eq_nil_of_le (show s.data.toList.length ≤ p + 1 by rw [← size_list]; omega)]
      rfl
    · unfold plainAt
      rw [decide_eq_true (show (s.size : Int) ≤ (p : Int) + 1 by omega)]
      simp
  have hd : itemL (s.data.toList.drop p) = if s[p] ≠ 91 ∨ isMark s[p + 1] = false then some (ofL [s[p]], s[p].toNat, true, 1) else namedL s[p + 1] (s.data.toList.drop (p + 1 + 1)) := by
    rw [drop_cons_ hp, drop_cons_ hp1, itemL]
  have hfl := plain_flag hp1
  by_cases hc : s[p] ≠ 91 ∨ isMark s[p + 1] = false
  · refine .inr ⟨ofL [s[p]], s[p].toNat, true, 1, hd.trans (if_pos hc), ofL_ok _, s[p].toNat_lt, by omega, by omega, plain_L hs hp ?_⟩
    rw [hfl]
    rcases hc with h | h
    · rw [bne_iff_ne.2 h]; rfl
    · rw [h]; simp
  rw [if_neg hc] at hd
  have hpl : plainAt s (p : Int) = false := by
    rw [hfl]
    have h1 : s[p] = 91 := Decidable.byContradiction fun q => hc (.inl q)
    have h2 : isMark s[p + 1] = true := by
      cases q : isMark s[p + 1] with
      | true => rfl
      | false => exact absurd (.inr q) hc
    rw [h1, h2]
    rfl
  have hm := bt_ok s ((p + 1 : Nat) : Int)
  have hmk := u8_bt hp1
  obtain ⟨ix, hix⟩ : ∃ ix, Lib.index (s.data.toList.drop (p + 3)) [s[p + 1], 93] = ix := ⟨_, rfl⟩
  have hnk : namedK s (p : Int) = ix := by
    unfold namedK
    by_cases h2 : p + 2 < s.size
    · rw [if_pos (by omega), show ((p : Int) + 3).toNat = p + 3 by omega, ext_drop, show (p : Int) + 1 = ((p + 1 : Nat) : Int) by omega, nums2 hm, hmk]
      exact hix
    · rw [if_neg (by omega), ← hix, List.drop_eq_nil_of_le (by simp; omega)]
      rfl
  have hd1 : (s.data.toList.drop (p + 1 + 1)).drop 1 = s.data.toList.drop (p + 3) := by rw [List.drop_drop]
  have hnamed : bracket_reader_named.f s (p : Int) 0 = if ix < 0 then some (⟨#[]⟩, bt s ((p + 1 : Nat) : Int), s, (p : Int), 6) else some (s.extract (p + 2) ((p : Int) + 3 + ix).toNat, bt s ((p + 1 : Nat) : Int), s, (p : Int) + 3 + ix + 2, 0) := by
    unfold bracket_reader_named.f
    rw [if_pos (by omega), hnk, show (p : Int) + 1 = ((p + 1 : Nat) : Int) by omega, show ((p : Int) + 2).toNat = p + 2 by omega]
  unfold namedL at hd
  rw [hd1, hix] at hd
  by_cases hneg : ix < 0
  · rw [if_pos hneg] at hd
    refine .inl ⟨hd, 6, by decide, 0, 0, 0, 0, 0, (p : Int), false, ?_⟩
    unfold bracket_reader_item.f
    rw [if_pos (by omega), if_neg (by rw [hpl]; decide), hnamed, if_pos hneg]
    rfl
  rw [if_neg hneg] at hd
  obtain ⟨i, rfl⟩ := Int.eq_ofNat_of_zero_le (show 0 ≤ ix by omega)
  have hfit := index_fits (s.data.toList.drop (p + 3)) [s[p + 1], 93] (by rw [hix]; omega)
  rw [hix, List.length_drop, ← size_list] at hfit
  simp only [List.length_cons, List.length_nil] at hfit
  obtain ⟨en, hen⟩ : ∃ en, en = p + 3 + i := ⟨_, rfl⟩
  have hen2 : en + 2 ≤ s.size := by omega
  rw [if_neg hneg, show (p : Int) + 3 + (i : Int) = (en : Int) by omega, show ((en : Int)).toNat = en by omega, show (en : Int) + 2 = ((en + 2 : Nat) : Int) by omega] at hnamed
  obtain ⟨nm, hnm⟩ : ∃ nm, s.extract (p + 2) en = nm := ⟨_, rfl⟩
  have hnsz : nm.size = i + 1 := by rw [← hnm, ByteArray.size_extract]; omega
  have hnl : nm.data.toList = (s.data.toList.drop (p + 1 + 1)).take (i + 1) := by
    rw [← hnm, Lib.extract_data, show en - (p + 2) = i + 1 by omega]
  rw [hnm] at hnamed
  rw [show ((i : Nat) : Int).toNat = i by omega, ← hnl] at hd
  have hbr : bracket_reader_item.f s (p : Int) 0 = (if bt s ((p + 1 : Nat) : Int) = 58 then (bset_Class.f nm).bind fun u => some (u.1, u.2.1, u.2.2.1, u.2.2.2.1, 0, false, s, ((en + 2 : Nat) : Int), u.2.2.2.2)
      else if (nm.size : Int) = 1 then (bset_Of.f nm).bind fun u => some (u.1, u.2.1, u.2.2.1, u.2.2.2, bt nm 0, bt s ((p + 1 : Nat) : Int) == 46, s, ((en + 2 : Nat) : Int), 0)
      else some (0, 0, 0, 0, 0, false, s, ((en + 2 : Nat) : Int), 8)) := by
    unfold bracket_reader_item.f
    rw [if_pos (by omega), if_neg (by rw [hpl]; decide), hnamed, Option.bind_some]
    rfl
  have hbb := bt_get hp1
  have e58 : bt s ((p + 1 : Nat) : Int) = 58 ↔ s[p + 1] = 58 := by
    rw [hbb]
    constructor
    · intro e; apply UInt8.toNat_inj.1; show _ = 58; omega
    · intro e; rw [e]; rfl
  have e46 : (bt s ((p + 1 : Nat) : Int) == 46) = (s[p + 1] == 46) := by
    rw [hbb, Bool.eq_iff_iff, beq_iff_eq, beq_iff_eq]
    constructor
    · intro e; apply UInt8.toNat_inj.1; show _ = 46; omega
    · intro e; rw [e]; rfl
  by_cases h58 : s[p + 1] = 58
  · rw [if_pos h58] at hd
    rw [if_pos (e58.2 h58)] at hbr
    rcases cls_L nm with ⟨t, hto, hcl, hcb⟩ | ⟨hcl, t1, t2, t3, t4, e, he, hcb⟩
    · rw [hcl] at hd
      rw [hcb, Option.bind_some] at hbr
      refine .inr ⟨t, 0, false, i + 5, hd, hto, by omega, by omega, by omega, ?_⟩
      rw [show p + (i + 5) = en + 2 by omega]
      exact hbr
    · rw [hcl] at hd
      rw [hcb, Option.bind_some] at hbr
      exact .inl ⟨hd, e, he, _, _, _, _, _, _, _, hbr⟩
  · rw [if_neg h58] at hd
    rw [if_neg (fun q => h58 (e58.1 q))] at hbr
    by_cases h1 : i = 0
    · subst h1
      rw [if_pos rfl] at hd
      rw [if_pos (show (nm.size : Int) = 1 by omega), bOf_eq (by omega), Option.bind_some, e46] at hbr
      have hnl1 : nm.data.toList = (s.data.toList.drop (p + 1 + 1)).take 1 := hnl
      have hp2 : p + 1 + 1 < s.size := by omega
      rw [drop_cons_ hp2] at hnl1 hd
      have hn0 : nm.data.toList = [s[p + 1 + 1]] := hnl1
      have hb0 : bt nm 0 = (s[p + 1 + 1].toNat : Int) := by
        have := bt_get (s := nm) (i := 0) (by omega)
        refine this.trans ?_
        have h0 : nm.data.toList[0]'(by rw [← size_list]; omega) = s[p + 1 + 1] := by simp only [hn0, List.getElem_cons_zero]
        exact congrArg (fun b : UInt8 => (b.toNat : Int)) h0
      refine .inr ⟨ofL [s[p + 1 + 1]], s[p + 1 + 1].toNat, s[p + 1] == 46, 5, hd, ofL_ok _, UInt8.toNat_lt _, by omega, by omega, ?_⟩
      rw [show p + 5 = en + 2 by omega, hbr, ofS_ofL, hn0, hb0]
    · rw [if_neg h1] at hd
      rw [if_neg (show ¬ (nm.size : Int) = 1 by omega)] at hbr
      exact .inl ⟨hd, 8, by decide, _, _, _, _, _, _, _, hbr⟩
end Go.Proofs.YtcmipoicnonaeaaDoor.F
end
section
namespace Go.Proofs.YtcmipoicnonaeaaDoor.F
open Go.RowKit Go.Proofs.YtcmipoicnonaeaaDoorW.PrintWords Go.Proofs.YtcmipoicnonaeaaDoorW.PrintLast
set_option linter.unusedVariables false
set_option linter.unusedSimpArgs false
theorem span_set {lo hi : Nat} (hl : lo < 256) (hh : hi < 256) (h : ¬ hi < lo) : okS (addL zeroS (List.range' lo (hi - lo + 1))) ∧ bset_Span.f (lo : Int) (hi : Int) = some ((addL zeroS (List.range' lo (hi - lo + 1))).1, (addL zeroS (List.range' lo (hi - lo + 1))).2.1, (addL zeroS (List.range' lo (hi - lo + 1))).2.2.1, (addL zeroS (List.range' lo (hi - lo + 1))).2.2.2, 0) := by
  refine ⟨addL_ok (fun b hb => by rw [List.mem_range'_1] at hb; omega) zeroS_ok, ?_⟩
  unfold bset_Span.f spanS
  rw [if_pos (by omega), if_neg (by omega), show (((hi : Int) - (lo : Int) + 1)).toNat = hi - lo + 1 by omega]
  have := orSpan_eq (hi - lo + 1) lo zeroS
  unfold zeroS at this
  rw [this]
  rfl
theorem span_err {lo hi : Nat} (hl : lo < 256) (hh : hi < 256) (h : hi < lo) : bset_Span.f (lo : Int) (hi : Int) = some (0, 0, 0, 0, 7) := by
  unfold bset_Span.f spanS
  rw [if_pos (by omega), if_pos (by omega)]
set_option maxHeartbeats 1000000 in
theorem span_L (s : ByteArray) (hs : s.size < 4294967281) {p : Nat} (hp : p < s.size) :
    (spanL (s.data.toList.drop p) = none ∧ ∃ e : Int, e ≠ 0 ∧ ∃ t1 t2 t3 t4 q : Int, bracket_reader_span.f s (p : Int) 0 = some (t1, t2, t3, t4, s, q, e)) ∨
    (∃ (t : S4) (n : Nat), spanL (s.data.toList.drop p) = some (t, n) ∧ okS t ∧ 0 < n ∧ p + n ≤ s.size ∧ bracket_reader_span.f s (p : Int) 0 = some (t.1, t.2.1, t.2.2.1, t.2.2.2, s, ((p + n : Nat) : Int), 0)) := by
  rcases item_L s hs hp with ⟨hn, e, he, t1, t2, t3, t4, b, q, g, hb⟩ | ⟨t, b, g, n, hi, hto, hbr, hn0, hpn, hb⟩
  · refine .inl ⟨by unfold spanL; rw [hn], e, he, t1, t2, t3, t4, q, ?_⟩
    unfold bracket_reader_span.f
    rw [hb, Option.bind_some]
    exact if_pos he
  · have hda := dash_b s (by omega) (p + n) 0
    have hdl := dash_L s (p + n)
    have hdr : ∀ m, (s.data.toList.drop p).drop m = s.data.toList.drop (p + m) := fun m => by rw [List.drop_drop]
    have hsl : spanL (s.data.toList.drop p) = if dashL (s.data.toList.drop (p + n)) = false then some (t, n) else if g = false then none else
        match itemL (s.data.toList.drop (p + (n + 1))) with
        | none => none
        | some (u, c, g2, n2) => if g2 = false ∨ c < b ∨ dashL (s.data.toList.drop (p + (n + 1 + n2))) = true then none else some (addL zeroS (List.range' b (c - b + 1)), n + 1 + n2) := by
      unfold spanL
      rw [hi]
      simp only [hdr]
      try rfl
    cases hdash : dashAt s (p + n) with
    | false =>
      rw [hdash] at hda
      rw [← hdl, hdash, if_pos rfl] at hsl
      refine .inr ⟨t, n, hsl, hto, hn0, hpn, ?_⟩
      unfold bracket_reader_span.f
      rw [hb, Option.bind_some]
      show (if (0 : Int) ≠ 0 then _ else _) = _
      rw [if_neg (by decide), hda, Option.bind_some]
      rfl
    | true =>
      rw [hdash] at hda
      rw [← hdl, hdash, if_neg (by decide)] at hsl
      have hql := dashAt_lt hdash
      have hw : Aside0 (wrap64 (((p + n : Nat) : Int) + 1) = ((p + n + 1 : Nat) : Int)) := ⟨wrap_succ (by omega)⟩
      have hsp : bracket_reader_span.f s (p : Int) 0 = (if (s.size : Int) ≤ ((p + n + 1 : Nat) : Int) then some (t.1, t.2.1, t.2.2.1, t.2.2.2, s, ((p + n + 1 : Nat) : Int), 6) else
          if g = false then some (t.1, t.2.1, t.2.2.1, t.2.2.2, s, ((p + n + 1 : Nat) : Int), 7) else
          (bracket_reader_item.f s ((p + n + 1 : Nat) : Int) 0).bind fun (u1, u2, u3, u4, u5, u6, s11, p11, e11) =>
          if e11 ≠ 0 then some (t.1, t.2.1, t.2.2.1, t.2.2.2, s11, p11, e11) else
          if u6 = false then some (t.1, t.2.1, t.2.2.1, t.2.2.2, s11, p11, 7) else
          (bset_Span.f (b : Int) u5).bind fun (v1, v2, v3, v4, ev) =>
          if ev ≠ 0 then some (v1, v2, v3, v4, s11, p11, ev) else
          (bracket_reader_dash.f s11 p11 0).bind fun (d2, s12, p12, e12) =>
          if d2 = false then some (v1, v2, v3, v4, s12, p12, e12) else some (v1, v2, v3, v4, s12, p12, 7)) := by
        unfold bracket_reader_span.f
        rw [hb, Option.bind_some]
        show (if (0 : Int) ≠ 0 then _ else _) = _
        rw [if_neg (by decide), hda, Option.bind_some]
        show (if true = false then _ else _) = _
        rw [if_neg (by decide), (i64_w _).trans hw.out]
      by_cases hend : s.size ≤ p + n + 1
      · rw [if_pos (by omega)] at hsp
        refine .inl ⟨?_, 6, by decide, _, _, _, _, _, hsp⟩
        rw [hsl, List.drop_eq_nil_of_le (show s.data.toList.length ≤ p + (n + 1) by rw [← size_list]; omega)]
        simp [itemL]
      rw [if_neg (by omega)] at hsp
      cases g with
      | false =>
        rw [if_pos rfl] at hsp hsl
        exact .inl ⟨hsl, 7, by decide, _, _, _, _, _, hsp⟩
      | true =>
        rw [if_neg (by decide)] at hsp hsl
        rcases item_L s hs (p := p + n + 1) (by omega) with ⟨hn2, e, he, u1, u2, u3, u4, c, r, f, hb2⟩ | ⟨u, c, f, n2, hi2, huo, hcr, hn20, hpn2, hb2⟩
        · rw [show p + n + 1 = p + (n + 1) by omega] at hn2
          rw [hn2] at hsl
          rw [hb2, Option.bind_some] at hsp
          exact .inl ⟨hsl, e, he, _, _, _, _, _, hsp.trans (if_pos he)⟩
        · rw [show p + n + 1 = p + (n + 1) by omega] at hi2
          rw [hi2] at hsl
          rw [hb2, Option.bind_some] at hsp
          have hsp2 := hsp.trans (if_neg (by decide))
          have hsl2 : spanL (s.data.toList.drop p) = if f = false ∨ c < b ∨ dashL (s.data.toList.drop (p + (n + 1 + n2))) = true then none else some (addL zeroS (List.range' b (c - b + 1)), n + 1 + n2) := hsl
          cases f with
          | false =>
            rw [if_pos (.inl rfl)] at hsl2
            exact .inl ⟨hsl2, 7, by decide, _, _, _, _, _, hsp2.trans (if_pos rfl)⟩
          | true =>
            have hsp3 := hsp2.trans (if_neg (by decide))
            by_cases hlt : c < b
            · rw [if_pos (.inr (.inl hlt))] at hsl2
              rw [span_err hbr hcr hlt, Option.bind_some] at hsp3
              exact .inl ⟨hsl2, 7, by decide, _, _, _, _, _, hsp3.trans (if_pos (by decide))⟩
            · obtain ⟨hvo, hv⟩ := span_set hbr hcr hlt
              rw [hv, Option.bind_some] at hsp3
              have hsp4 := hsp3.trans (if_neg (by decide))
              have hda2 := dash_b s (by omega) (p + n + 1 + n2) 0
              have hdl2 := dash_L s (p + n + 1 + n2)
              rw [hda2, Option.bind_some] at hsp4
              rw [show p + (n + 1 + n2) = p + n + 1 + n2 by omega, ← hdl2] at hsl2
              cases hdr2 : dashAt s (p + n + 1 + n2) with
              | false =>
                rw [hdr2] at hsp4 hsl2
                rw [if_neg (by simp [hlt])] at hsl2
                refine .inr ⟨_, _, hsl2, hvo, by omega, by omega, ?_⟩
                rw [show p + (n + 1 + n2) = p + n + 1 + n2 by omega]
                exact hsp4
              | true =>
                rw [hdr2] at hsp4 hsl2
                rw [if_pos (.inr (.inr rfl))] at hsl2
                exact .inl ⟨hsl2, 7, by decide, _, _, _, _, _, hsp4⟩
inductive PR : Bool → S4 → List UInt8 → S4 → Nat → Prop
  | stop (t : S4) (l : List UInt8) : PR false t (93 :: l) t 1
  | step {f : Bool} {t : S4} {l : List UInt8} {u : S4} {n : Nat} {t' : S4} {m : Nat} : (f = true ∨ l.head? ≠ some 93) → spanL l = some (u, n) → PR false (orS t u) (l.drop n) t' m → PR f t l t' (n + m)
def turnS (nt : Bool) (t : S4) : S4 := if nt then notS t else t
theorem head_at {s : ByteArray} {p : Nat} (h : p < s.size) : (bt s (p : Int) = 93) ↔ (s.data.toList.drop p).head? = some 93 := by
  rw [bt_get h, drop_cons_ h, List.head?_cons]
  constructor
  · intro e
    congr 1
    apply UInt8.toNat_inj.1
    show _ = 93
    omega
  · intro e
    rw [Option.some.inj e]
    rfl
theorem PR_loop (s : ByteArray) (hs : s.size < 4294967281) (nt : Bool) {f : Bool} {t : S4} {l : List UInt8} {t' : S4} {m : Nat} (h : PR f t l t' m) :
    ∀ p, l = s.data.toList.drop p → okS t → ∀ k, s.size < k + p → okS t' ∧ p + m ≤ s.size ∧ parseL s nt k f t.1 t.2.1 t.2.2.1 t.2.2.2 s (p : Int) 0 = some ((turnS nt t').1, (turnS nt t').2.1, (turnS nt t').2.2.1, (turnS nt t').2.2.2, ((p + m : Nat) : Int), 0) := by
  induction h with
  | stop t l =>
    intro p hl ht k hk
    have hp : p < s.size := by
      by_cases hp : p < s.size
      · exact hp
      · rw [List.drop_eq_nil_of_le (by rw [← size_list]; omega)] at hl
        cases hl
    obtain ⟨k, rfl⟩ : ∃ j, k = j + 1 := ⟨k - 1, by omega⟩
    have hb : bt s (p : Int) = 93 := (head_at hp).2 (by rw [← hl]; rfl)
    have hw : Aside0 (wrap64 ((p : Int) + 1) = ((p + 1 : Nat) : Int)) := ⟨wrap_succ (by omega)⟩
    refine ⟨ht, by omega, ?_⟩
    rw [parseL, if_neg (by decide), if_neg (by omega), if_neg (by omega), if_pos ⟨hb, rfl⟩, (i64_w _).trans hw.out]
    cases nt <;> rfl
  | step hc hsp hr ih =>
    rename_i f t l u n t' m
    intro p hl ht k hk
    have hp : p < s.size := by
      by_cases hp : p < s.size
      · exact hp
      · rw [List.drop_eq_nil_of_le (by rw [← size_list]; omega)] at hl
        subst hl
        cases hsp
    obtain ⟨k, rfl⟩ : ∃ j, k = j + 1 := ⟨k - 1, by omega⟩
    subst hl
    rcases span_L s hs hp with ⟨hn, _⟩ | ⟨u', n', hsp', huo, hn0, hpn, hb⟩
    · rw [hn] at hsp; cases hsp
    · rw [hsp'] at hsp
      cases hsp
      obtain ⟨h1, h2, h3⟩ := ih (p + n) (by rw [List.drop_drop]) (orS_ok ht huo) k (by omega)
      refine ⟨h1, by omega, ?_⟩
      rw [parseL, if_neg (by decide), if_neg (by omega), if_neg (by omega), if_neg, hb, Option.bind_some]
      · rw [show p + (n + m) = p + n + m by omega]
        exact h3
      · rintro ⟨q1, q2⟩
        rcases hc with h | h
        · rw [h] at q2; cases q2
        · exact h ((head_at hp).1 q1)
def BR (nt : Bool) (l : List UInt8) (t : S4) (m : Nat) : Prop :=
  ∃ l', l = 91 :: l' ∧ ((nt = false ∧ l'.head? ≠ some 94 ∧ ∃ k, PR true zeroS l' t k ∧ m = k + 1) ∨ (nt = true ∧ ∃ l2 k, l' = 94 :: l2 ∧ PR true zeroS l2 t k ∧ m = k + 2))
theorem head_lt {s : ByteArray} {p : Nat} {b : UInt8} {l : List UInt8} (h : s.data.toList.drop p = b :: l) : ∃ hp : p < s.size, s[p] = b ∧ s.data.toList.drop (p + 1) = l := by
  by_cases hp : p < s.size
  · rw [drop_cons_ hp] at h
    injection h with h1 h2
    exact ⟨hp, h1, h2⟩
  · rw [List.drop_eq_nil_of_le (by rw [← size_list]; omega)] at h
    cases h
set_option maxHeartbeats 1000000 in
theorem BR_parse (s : ByteArray) (hs : s.size < 4294967281) (p : Nat) {nt : Bool} {t : S4} {m : Nat} (h : BR nt (s.data.toList.drop p) t m) :
    okS t ∧ p + m ≤ s.size ∧ bracket_Parse.f s (p : Int) = some ((turnS nt t).1, (turnS nt t).2.1, (turnS nt t).2.2.1, (turnS nt t).2.2.2, ((p + m : Nat) : Int), 0) := by
  obtain ⟨l', hl, h⟩ := h
  obtain ⟨hp, hs0, hd1⟩ := head_lt hl
  have hb : bt s (p : Int) = 91 := by rw [bt_get hp, hs0]; rfl
  have hw : Aside0 (wrap64 ((p : Int) + 1) = ((p + 1 : Nat) : Int)) := ⟨wrap_succ (by omega)⟩
  have hw2 : Aside0 (wrap64 (((p + 1 : Nat) : Int) + 1) = ((p + 2 : Nat) : Int)) := ⟨wrap_succ (by omega)⟩
  have hbp : bracket_Parse.f s (p : Int) = (if ((p + 1 : Nat) : Int) < (s.size : Int) ∧ bt s ((p + 1 : Nat) : Int) = 94 then parseL s true (s.size + 1) true 0 0 0 0 s ((p + 2 : Nat) : Int) 0
      else parseL s false (s.size + 1) true 0 0 0 0 s ((p + 1 : Nat) : Int) 0) := by
    unfold bracket_Parse.f
    rw [if_neg (by rw [hb]; omega), (i64_w _).trans hw.out, (i64_w _).trans hw2.out, if_neg (by omega)]
  rcases h with ⟨rfl, hh, k, hr, rfl⟩ | ⟨rfl, l2, k, rfl, hr, rfl⟩
  · obtain ⟨h1, h2, h3⟩ := PR_loop s hs false hr (p + 1) hd1.symm zeroS_ok (s.size + 1) (by omega)
    refine ⟨h1, by omega, ?_⟩
    rw [hbp, if_neg, show p + (k + 1) = p + 1 + k by omega]
    · exact h3
    · rintro ⟨q1, q2⟩
      have hp1 : p + 1 < s.size := by omega
      apply hh
      rw [← hd1, drop_cons_ hp1, List.head?_cons]
      congr 1
      rw [bt_get hp1] at q2
      apply UInt8.toNat_inj.1
      show _ = 94
      omega
  · obtain ⟨hp1, hs1, hd2⟩ := head_lt hd1
    obtain ⟨h1, h2, h3⟩ := PR_loop s hs true hr (p + 2) hd2.symm zeroS_ok (s.size + 1) (by omega)
    refine ⟨h1, by omega, ?_⟩
    rw [hbp, if_pos ⟨by omega, by rw [bt_get hp1, hs1]; rfl⟩, show p + (k + 2) = p + 2 + k by omega]
    exact h3
end Go.Proofs.YtcmipoicnonaeaaDoor.F
end
section
namespace Go.Proofs.YtcmipoicnonaeaaDoor.F
open Go.RowKit Go.Proofs.YtcmipoicnonaeaaDoorW.PrintWords
set_option linter.unusedVariables false
set_option linter.unusedSimpArgs false
theorem low_bit : ∀ (n : Nat), 0 < n → ∃ k m, n = 2 ^ (k + 1) * m + 2 ^ k := by
  intro n
  induction n using Nat.strongRecOn with
  | _ n ih =>
    intro h
    by_cases ho : n % 2 = 1
    · exact ⟨0, n / 2, by omega⟩
    · obtain ⟨k, m, e⟩ := ih (n / 2) (by omega) (by omega)
      refine ⟨k + 1, m, ?_⟩
      rw [Nat.pow_succ 2 (k + 1), Nat.pow_succ 2 k]
      have e2 : n = 2 * (n / 2) := by omega
      rw [e2, e, Nat.pow_succ]
      generalize 2 ^ k = p
      rw [Nat.mul_add]
      congr 1
      · rw [← Nat.mul_assoc, Nat.mul_comm 2 (p * 2)]
      · omega
theorem tb_low (k m r : Nat) (hr : r < 2 ^ (k + 1)) (j : Nat) : (2 ^ (k + 1) * m + r).testBit j = if j < k + 1 then r.testBit j else m.testBit (j - (k + 1)) := Nat.testBit_two_pow_mul_add m hr j
theorem pow_lt_succ (k : Nat) : 2 ^ k < 2 ^ (k + 1) := Nat.pow_lt_pow_right (by decide) (by omega)
theorem tb_n (k m j : Nat) : (2 ^ (k + 1) * m + 2 ^ k).testBit j = if j < k + 1 then decide (k = j) else m.testBit (j - (k + 1)) := by
  rw [tb_low k m _ (pow_lt_succ k), Nat.testBit_two_pow]
theorem pred_and (k m : Nat) : (2 ^ (k + 1) * m + 2 ^ k) &&& (2 ^ (k + 1) * m + 2 ^ k - 1) = 2 ^ (k + 1) * m := by
  have h1 : 0 < 2 ^ k := Nat.two_pow_pos k
  apply Nat.eq_of_testBit_eq
  intro j
  rw [Nat.testBit_and, tb_n, show 2 ^ (k + 1) * m + 2 ^ k - 1 = 2 ^ (k + 1) * m + (2 ^ k - 1) by omega, tb_low k m _ (by have := pow_lt_succ k; omega), Nat.testBit_two_pow_sub_one, ← Nat.add_zero (2 ^ (k + 1) * m), tb_low k m 0 (Nat.two_pow_pos _)]
  by_cases hj : j < k + 1
  · simp only [hj, if_true, Nat.zero_testBit]
    by_cases hk : k = j
    · subst hk; simp
    · simp [hk]
  · simp only [hj, if_false, Bool.and_self]
theorem neg_and (k m : Nat) (hk : k < 64) (h : 2 ^ (k + 1) * m + 2 ^ k < 2 ^ 64) : (2 ^ (k + 1) * m + 2 ^ k) &&& (2 ^ 64 - (2 ^ (k + 1) * m + 2 ^ k)) = 2 ^ k := by
  have e64 : 2 ^ 64 = 2 ^ (k + 1) * 2 ^ (63 - k) := by rw [← Nat.pow_add, show k + 1 + (63 - k) = 64 by omega]
  have hm : m < 2 ^ (63 - k) := by
    have : 2 ^ (k + 1) * m < 2 ^ (k + 1) * 2 ^ (63 - k) := by rw [← e64]; exact Nat.lt_of_le_of_lt (Nat.le_add_right _ _) h
    exact Nat.lt_of_mul_lt_mul_left this
  have e : 2 ^ 64 - (2 ^ (k + 1) * m + 2 ^ k) = 2 ^ (k + 1) * (2 ^ (63 - k) - (m + 1)) + 2 ^ k := by
    have e1 : 2 ^ (k + 1) * (2 ^ (63 - k) - (m + 1)) = 2 ^ (k + 1) * 2 ^ (63 - k) - 2 ^ (k + 1) * (m + 1) := Nat.mul_sub _ _ _
    have e2 : 2 ^ (k + 1) * (m + 1) = 2 ^ (k + 1) * m + 2 ^ (k + 1) := by rw [Nat.mul_add, Nat.mul_one]
    have e3 : 2 ^ (k + 1) = 2 ^ k + 2 ^ k := by rw [Nat.pow_succ]; omega
    have e4 : 2 ^ (k + 1) * (m + 1) ≤ 2 ^ (k + 1) * 2 ^ (63 - k) := Nat.mul_le_mul_left _ hm
    rw [e1, e64]
    omega
  rw [e]
  apply Nat.eq_of_testBit_eq
  intro j
  rw [Nat.testBit_and, tb_n, tb_n, Nat.testBit_two_pow]
  by_cases hj : j < k + 1
  · simp only [hj, if_true, Bool.and_self]
  · simp only [hj, if_false]
    rw [Nat.testBit_two_pow_sub_succ hm, decide_eq_false (show ¬ k = j by omega)]
    cases m.testBit (j - (k + 1)) <;> simp
theorem tz_table : ((List.range 64).all fun k => dbTab.getD (IntKind.u64.wrap ((2 ^ k : Nat) * 285870213051353865 : Int) / 288230376151711744).toNat 0 == (k : Int)) = true := by kernel_rfl
theorem tz_eq (k m : Nat) (hk : k < 64) (h : 2 ^ (k + 1) * m + 2 ^ k < 2 ^ 64) : tz ((2 ^ (k + 1) * m + 2 ^ k : Nat) : Int) = (k : Int) := by
  have hp : 0 < 2 ^ k := Nat.two_pow_pos k
  have hw : IntKind.u64.wrap (-((2 ^ (k + 1) * m + 2 ^ k : Nat) : Int)) = ((2 ^ 64 - (2 ^ (k + 1) * m + 2 ^ k) : Nat) : Int) := by
    obtain ⟨q, hq⟩ : ∃ q, 2 ^ (k + 1) * m + 2 ^ k = q := ⟨_, rfl⟩
    rw [hq] at h ⊢
    have : 0 < q := by omega
    simp [IntKind.wrap, IntKind.bits, IntKind.signed]
    omega
  unfold tz tzIx
  rw [hw, u64_and_nat _ _ (by simpa using h) (by omega), neg_and k m hk h]
  exact beq_iff_eq.1 (List.all_eq_true.1 tz_table k (List.mem_range.2 hk))
def bitsN (n : Nat) : List Nat := (List.range' 0 64).filter n.testBit
theorem bits_step (k m : Nat) (hk : k < 64) : bitsN (2 ^ (k + 1) * m + 2 ^ k) = k :: bitsN (2 ^ (k + 1) * m) := by
  unfold bitsN
  have e : List.range' 0 64 = List.range' 0 k ++ k :: List.range' (k + 1) (63 - k) := by
    have e0 := @List.range'_append_1 0 k (64 - k)
    rw [show k + (64 - k) = 64 by omega, Nat.zero_add] at e0
    rw [← e0, show 64 - k = (63 - k) + 1 by omega, List.range'_succ]
  have hz : ∀ j, (2 ^ (k + 1) * m).testBit j = if j < k + 1 then false else m.testBit (j - (k + 1)) := by
    intro j
    rw [← Nat.add_zero (2 ^ (k + 1) * m), tb_low k m 0 (Nat.two_pow_pos _)]
    simp
  have f1 : (List.range' 0 k).filter (2 ^ (k + 1) * m + 2 ^ k).testBit = [] := List.filter_eq_nil_iff.2 (fun j hj => by rw [List.mem_range'_1] at hj; rw [tb_n, if_pos (by omega)]; simp; omega)
  have f2 : (List.range' 0 k).filter (2 ^ (k + 1) * m).testBit = [] := List.filter_eq_nil_iff.2 (fun j hj => by rw [List.mem_range'_1] at hj; rw [hz, if_pos (by omega)]; simp)
  rw [e, List.filter_append, List.filter_append, f1, f2]
  rw [List.filter_cons_of_pos (by rw [tb_n, if_pos (by omega)]; simp), List.filter_cons_of_neg (by rw [hz, if_pos (by omega)]; simp)]
  simp only [List.nil_append, List.cons.injEq, true_and]
  apply List.filter_congr
  intro j hj
  rw [List.mem_range'_1] at hj
  rw [tb_n, hz, if_neg (by omega), if_neg (by omega)]
theorem wordL_bits (base : Nat) : ∀ (n : Nat), n < 2 ^ 64 → wordL (base : Int) n (n : Int) = (bitsN n).map (fun i => (base + i).toUInt8) := by
  intro n
  induction n using Nat.strongRecOn with
  | _ n ih =>
    intro h
    by_cases h0 : n = 0
    · subst h0
      simp [wordL, bitsN]
    · obtain ⟨k, m, e⟩ := low_bit n (by omega)
      have hk : k < 64 := by
        by_cases hk : k < 64
        · exact hk
        · have : 2 ^ 64 ≤ 2 ^ k := Nat.pow_le_pow_right (by decide) (by omega)
          omega
      have hp : 0 < 2 ^ k := Nat.two_pow_pos k
      have hs := wordL_step (base : Int) (x := (n : Int)) (by omega) (by omega) (by omega)
      have ea : Go.bits .and .u64 (n : Int) ((n : Int) - 1) = ((2 ^ (k + 1) * m : Nat) : Int) := by
        rw [show ((n : Int) - 1) = ((n - 1 : Nat) : Int) by omega, u64_and_nat _ _ (by omega) (by omega), e, pred_and]
      rw [ea] at hs
      rw [show ((n : Int)).toNat = n by omega, show (((2 ^ (k + 1) * m : Nat) : Int)).toNat = 2 ^ (k + 1) * m by omega] at hs
      rw [hs, ih (2 ^ (k + 1) * m) (by omega) (by omega)]
      subst e
      rw [tz_eq k m hk h, bits_step k m hk, List.map_cons]
      rfl
theorem word_part (s : S4) (k : Nat) (hk : k < 4) : (List.range' (64 * k) 64).filter (has s) = (bitsN (wrd s k)).map (fun i => 64 * k + i) := by
  have e : List.range' (64 * k) 64 = (List.range' 0 64).map (fun i => 64 * k + i) := by rw [List.map_add_range']; rfl
  rw [e, List.filter_map]
  unfold bitsN
  congr 1
  apply List.filter_congr
  intro j hj
  rw [List.mem_range'_1] at hj
  show has s (64 * k + j) = _
  unfold has
  rw [show (64 * k + j) / 64 = k by omega, show (64 * k + j) % 64 = j by omega]
theorem range_parts : List.range' (64 * 0) 64 ++ (List.range' (64 * 1) 64 ++ (List.range' (64 * 2) 64 ++ List.range' (64 * 3) 64)) = List.range' 0 256 := by kernel_rfl
theorem memN_parts (s : S4) : memN s = (bitsN (wrd s 0)).map (fun i => 64 * 0 + i) ++ ((bitsN (wrd s 1)).map (fun i => 64 * 1 + i) ++ ((bitsN (wrd s 2)).map (fun i => 64 * 2 + i) ++ (bitsN (wrd s 3)).map (fun i => 64 * 3 + i))) := by
  rw [← word_part s 0 (by decide), ← word_part s 1 (by decide), ← word_part s 2 (by decide), ← word_part s 3 (by decide), ← List.filter_append, ← List.filter_append, ← List.filter_append, range_parts]
  rfl
theorem membL_eq {s : S4} (h : okS s) : membL s.1 s.2.1 s.2.2.1 s.2.2.2 = (memN s).map Nat.toUInt8 := by
  obtain ⟨h0, h1, h2, h3⟩ := h
  unfold w64 at *
  have w0 := wordL_bits 0 s.1.toNat (by omega)
  have w1 := wordL_bits 64 s.2.1.toNat (by omega)
  have w2 := wordL_bits 128 s.2.2.1.toNat (by omega)
  have w3 := wordL_bits 192 s.2.2.2.toNat (by omega)
  rw [Int.toNat_of_nonneg h0.1] at w0
  rw [Int.toNat_of_nonneg h1.1] at w1
  rw [Int.toNat_of_nonneg h2.1] at w2
  rw [Int.toNat_of_nonneg h3.1] at w3
  unfold membL restL
  rw [memN_parts, List.map_append, List.map_append, List.map_append, List.map_map, List.map_map, List.map_map, List.map_map]
  have w0' : wordL 0 s.1.toNat s.1 = _ := w0
  have w1' : wordL 64 s.2.1.toNat s.2.1 = _ := w1
  have w2' : wordL 128 s.2.2.1.toNat s.2.2.1 = _ := w2
  have w3' : wordL 192 s.2.2.2.toNat s.2.2.2 = _ := w3
  rw [w0', w1', w2', w3']
  rfl
theorem memN_lt (s : S4) : ∀ b ∈ memN s, b < 256 := filt_lt _
theorem membL_nat {s : S4} (h : okS s) : (membL s.1 s.2.1 s.2.2.1 s.2.2.2).map UInt8.toNat = memN s := by
  rw [membL_eq h, List.map_map]
  conv => rhs; rw [← List.map_id (memN s)]
  apply List.map_congr_left
  intro b hb
  have := memN_lt s b hb
  show (Nat.toUInt8 b).toNat = b
  simp only [Nat.toUInt8, UInt8.toNat_ofNat']
  omega
theorem memN_len (s : S4) : (memN s).length ≤ 256 := by
  have := List.length_filter_le (has s) (List.range' 0 256)
  simpa [memN] using this
theorem membL_len {s : S4} (h : okS s) : (membL s.1 s.2.1 s.2.2.1 s.2.2.2).length ≤ 256 := by
  have := congrArg List.length (membL_nat h)
  rw [List.length_map] at this
  rw [this]
  exact memN_len s
theorem memN_rise (s : S4) : (memN s).Pairwise (· < ·) := List.Pairwise.filter _ List.pairwise_lt_range'
theorem membL_rise {s : S4} (h : okS s) : (membL s.1 s.2.1 s.2.2.1 s.2.2.2).Pairwise (fun a b => a.toNat < b.toNat) := by
  have := memN_rise s
  rw [← membL_nat h, List.pairwise_map] at this
  exact this
theorem membL_nil {s : S4} (h : okS s) : membL s.1 s.2.1 s.2.2.1 s.2.2.2 = [] ↔ s = zeroS := by
  constructor
  · intro e
    refine ext4 h zeroS_ok fun c hc => ?_
    rw [has_zero]
    have hm : memN s = [] := by rw [← membL_nat h, e]; rfl
    have := mem_range0 hc (has s)
    rw [← this]
    show decide (c ∈ memN s) = false
    rw [hm]
    simp
  · rintro rfl
    simp [membL, restL, zeroS, wordL]
end Go.Proofs.YtcmipoicnonaeaaDoor.F
end
section
namespace Go.Proofs.YtcmipoicnonaeaaDoor.F
open Go.RowKit Go.Proofs.YtcmipoicnonaeaaDoorW.PrintWords Go.Proofs.YtcmipoicnonaeaaDoorW.PrintLast Go.Proofs.YtcmipoicnonaeaaDoorW.PrintMore
attribute [local go_sem] max2_int min2_int max_two min_two max_three min_three max_four min_four
set_option linter.unusedVariables false
set_option linter.unusedSimpArgs false
end Go.Proofs.YtcmipoicnonaeaaDoor.F
end
section
namespace Go.Proofs.YtcmipoicnonaeaaDoor.F
open Go.RowKit Go.Proofs.YtcmipoicnonaeaaDoorW.PrintWords Go.Proofs.YtcmipoicnonaeaaDoorW.PrintLast Go.Proofs.YtcmipoicnonaeaaDoorW.PrintMore
attribute [local go_sem] max2_int min2_int max_two min_two max_three min_three max_four min_four
set_option linter.unusedVariables false
set_option linter.unusedSimpArgs false
end Go.Proofs.YtcmipoicnonaeaaDoor.F
end
section
namespace Go.Proofs.YtcmipoicnonaeaaDoor.F
open Go.RowKit Go.Proofs.YtcmipoicnonaeaaDoorW.PrintWords
set_option linter.unusedVariables false
set_option linter.unusedSimpArgs false
def takeR : UInt8 → List UInt8 → List UInt8 × List UInt8
  | _, [] => ([], [])
  | x, c :: l => if isSpec c = false ∧ c.toNat = x.toNat + 1 then (c :: (takeR c l).1, (takeR c l).2) else ([], c :: l)
def R : Nat → List UInt8 → List UInt8
  | 0, _ => []
  | _ + 1, [] => []
  | n + 1, b :: l => if isSpec b then [91, 46, b, 46, 93] ++ R n l else squeeze (b :: (takeR b l).1) ++ R n (takeR b l).2
theorem R_nil (n : Nat) : R n [] = [] := by cases n <;> rfl
theorem takeR_len : ∀ (l : List UInt8) (x : UInt8), (takeR x l).2.length ≤ l.length
  | [], x => Nat.le_refl _
  | c :: l, x => by
    unfold takeR
    split
    · have := takeR_len l c
      simp only [List.length_cons]
      omega
    · exact Nat.le_refl _
def fin (st : List UInt8 × List UInt8) : List UInt8 := st.1 ++ squeeze st.2
def Rise (l : List UInt8) : Prop := l.Pairwise (fun a b => a.toNat < b.toNat)
theorem next_iff {x c : UInt8} (h : x.toNat < c.toNat) : IntKind.u8.wrap ((x.toNat : Int) + 1) ≠ (c.toNat : Int) ↔ ¬ c.toNat = x.toNat + 1 := by
  have hc := c.toNat_lt
  rw [u8_keep (by omega) (by omega)]
  omega
theorem fold_R : ∀ (l : List UInt8), Rise l →
    (∀ n out, l.length ≤ n → fin (l.foldl stepT (out, [])) = out ++ R n l) ∧
    (∀ n out r x, l.length ≤ n → r ≠ [] → r.getLastD 0 = x → Rise (x :: l) → fin (l.foldl stepT (out, r)) = out ++ squeeze (r ++ (takeR x l).1) ++ R n (takeR x l).2)
  | [], _ => by
    refine ⟨fun n out _ => ?_, fun n out r x _ _ _ _ => ?_⟩
    · simp [fin, squeeze, R_nil]
    · simp [fin, takeR, R_nil]
  | c :: l, hr => by
    obtain ⟨hA, hB⟩ := fold_R l (List.Pairwise.of_cons hr)
    refine ⟨fun n out hn => ?_, fun n out r x hn hne hx hrx => ?_⟩
    · obtain ⟨m, rfl⟩ : ∃ m, n = m + 1 := ⟨n - 1, by simp at hn; omega⟩
      have hm : l.length ≤ m := by simpa using hn
      rw [List.foldl_cons]
      by_cases hs : isSpec c = true
      · rw [show stepT (out, []) c = (out ++ squeeze [] ++ [91, 46, c, 46, 93], []) by simp [stepT, hs], hA m _ hm, R, if_pos hs]
        simp [squeeze]
      · rw [show stepT (out, []) c = (out, [c]) by simp [stepT, hs], hB m out [c] c hm (by simp) rfl hr, R, if_neg hs]
        simp
    · rw [List.foldl_cons]
      have hxc : x.toNat < c.toNat := by
        have := List.pairwise_cons.1 hrx
        exact this.1 c List.mem_cons_self
      by_cases hs : isSpec c = true
      · obtain ⟨m, rfl⟩ : ∃ m, n = m + 1 := ⟨n - 1, by simp at hn; omega⟩
        have hm : l.length ≤ m := by simpa using hn
        rw [show stepT (out, r) c = (out ++ squeeze r ++ [91, 46, c, 46, 93], []) by simp [stepT, hs], hA m _ hm]
        rw [takeR, if_neg (fun h => by rw [hs] at h; cases h.1), R, if_pos hs]
        simp
      · have hs' : isSpec c = false := Bool.eq_false_iff.2 hs
        by_cases he : c.toNat = x.toNat + 1
        · have e1 : stepT (out, r) c = (out, r ++ [c]) := by
            simp only [stepT, hs', Bool.false_eq_true, if_false]
            rw [if_neg (fun h => (next_iff hxc).1 (by rw [← hx]; exact h.2) he)]
          rw [e1, hB n out (r ++ [c]) c (by simp at hn; omega) (by simp) (by simp) hr, takeR, if_pos ⟨hs', he⟩]
          simp
        · obtain ⟨m, rfl⟩ : ∃ m, n = m + 1 := ⟨n - 1, by simp at hn; omega⟩
          have hm : l.length ≤ m := by simpa using hn
          have e1 : stepT (out, r) c = (out ++ squeeze r, [c]) := by
            simp only [stepT, hs', Bool.false_eq_true, if_false]
            rw [if_pos ⟨hne, by rw [hx]; exact (next_iff hxc).2 he⟩]
          rw [e1, hB m _ [c] c hm (by simp) rfl hr, takeR, if_neg (fun h => he h.2), R, if_neg hs]
          simp
theorem textL_R {l : List UInt8} (h : Rise l) {n : Nat} (hn : l.length ≤ n) : textL l = [91] ++ R n l ++ [93] := by
  have := (fold_R l h).1 n [91] hn
  unfold textL foldT
  rw [← this]
  rfl
def toI (l : List UInt8) : List Int := l.map (fun b => (b.toNat : Int))
end Go.Proofs.YtcmipoicnonaeaaDoor.F
end
section
namespace Go.Proofs.YtcmipoicnonaeaaDoor.F
open Go.RowKit Go.Proofs.YtcmipoicnonaeaaDoorW.PrintWords Go.Proofs.YtcmipoicnonaeaaDoorW.PrintLast
set_option linter.unusedVariables false
set_option linter.unusedSimpArgs false
theorem or_addL {t : S4} (ht : okS t) {l : List Nat} (hl : ∀ b ∈ l, b < 256) : orS t (addL zeroS l) = addL t l := by
  refine ext4 (orS_ok ht (addL_ok hl zeroS_ok)) (addL_ok hl ht) fun c hc => ?_
  rw [has_orS ht (addL_ok hl zeroS_ok) hc, has_addL hl hc zeroS_ok, has_addL hl hc ht, has_zero, Bool.false_or]
theorem addL_append (t : S4) (a b : List Nat) : addL t (a ++ b) = addL (addL t a) b := by simp [addL]
theorem takeR_app : ∀ (l : List UInt8) (x : UInt8), (takeR x l).1 ++ (takeR x l).2 = l
  | [], x => rfl
  | c :: l, x => by
    unfold takeR
    split
    · rw [List.cons_append, takeR_app l c]
    · rfl
theorem takeR_run : ∀ (l : List UInt8) (x : UInt8), (takeR x l).1.map UInt8.toNat = List.range' (x.toNat + 1) (takeR x l).1.length ∧ ∀ c ∈ (takeR x l).1, isSpec c = false
  | [], x => ⟨rfl, fun c h => by cases h⟩
  | c :: l, x => by
    unfold takeR
    split
    · rename_i h
      obtain ⟨h1, h2⟩ := takeR_run l c
      refine ⟨?_, fun d hd => ?_⟩
      · rw [List.map_cons, h1, List.length_cons, List.range'_succ, h.2]
      · rcases List.mem_cons.1 hd with rfl | hd
        · exact h.1
        · exact h2 d hd
    · exact ⟨rfl, fun c h => by cases h⟩
theorem isSpec_no {b : UInt8} (h : isSpec b = false) : b ≠ 93 ∧ b ≠ 94 ∧ b ≠ 45 ∧ b ≠ 91 := by
  unfold isSpec at h
  simp only [Bool.or_eq_false_iff, beq_eq_false_iff_ne] at h
  exact ⟨h.1.1.1, h.1.1.2, h.1.2, h.2⟩
theorem item_plain {b : UInt8} (h : b ≠ 91) (X : List UInt8) : itemL (b :: X) = some (ofL [b], b.toNat, true, 1) := by
  cases X with
  | nil => rfl
  | cons m tl => rw [itemL, if_pos (.inl h)]
theorem dash_no {X : List UInt8} (h : X.head? ≠ some 45) : dashL X = false := by
  match X, h with
  | [], _ => rfl
  | [c], h => exact beq_eq_false_iff_ne.2 (fun e => h (by rw [e]; rfl))
  | c :: d :: tl, h => rw [dashL, beq_eq_false_iff_ne.2 (fun e => h (by rw [e]; rfl)), Bool.false_and]
theorem span_plain_L {b : UInt8} (h : b ≠ 91) {X : List UInt8} (hX : X.head? ≠ some 45) : spanL (b :: X) = some (ofL [b], 1) := by
  unfold spanL
  rw [item_plain h]
  simp only [List.drop_succ_cons, List.drop_zero, dash_no hX, if_true]
theorem index_here (m : UInt8) (X : List UInt8) : Lib.index (m :: 93 :: X) [m, 93] = 0 := by
  rw [Lib.index, if_pos (by simp [List.isPrefixOf])]
theorem span_sym {b : UInt8} {X : List UInt8} (hX : X.head? ≠ some 45) : spanL (91 :: 46 :: b :: 46 :: 93 :: X) = some (ofL [b], 5) := by
  have hi : itemL (91 :: 46 :: b :: 46 :: 93 :: X) = some (ofL [b], b.toNat, true, 5) := by
    rw [itemL, if_neg (by decide), namedL]
    simp only [List.drop_succ_cons, List.drop_zero, index_here]
    rfl
  unfold spanL
  rw [hi]
  simp only [List.drop_succ_cons, List.drop_zero, dash_no hX, if_true]
theorem span_rng {b c : UInt8} (hb : b ≠ 91) (hc : c ≠ 91) (hc2 : c ≠ 93) (hbc : b.toNat ≤ c.toNat) {X : List UInt8} (hX : X.head? ≠ some 45) : spanL (b :: 45 :: c :: X) = some (addL zeroS (List.range' b.toNat (c.toNat - b.toNat + 1)), 3) := by
  have hd : dashL (45 :: c :: X) = true := by rw [dashL, bne_iff_ne.2 hc2]; rfl
  unfold spanL
  rw [item_plain hb]
  simp only [List.drop_succ_cons, List.drop_zero, hd, item_plain hc, dash_no hX]
  rw [if_neg (by decide), if_neg (by decide), if_neg (by simp; omega)]
theorem R_head : ∀ (n : Nat) (l : List UInt8), l ≠ [] → l.length ≤ n → ∃ c X, R n l = c :: X ∧ c ≠ 93 ∧ c ≠ 94 ∧ c ≠ 45
  | 0, [], h, _ => absurd rfl h
  | 0, b :: l, _, h => by simp at h
  | n + 1, [], h, _ => absurd rfl h
  | n + 1, b :: l, _, _ => by
    rw [R]
    by_cases hs : isSpec b = true
    · rw [if_pos hs]
      exact ⟨91, _, rfl, by decide, by decide, by decide⟩
    · rw [if_neg hs]
      have hn := isSpec_no (Bool.eq_false_iff.2 hs)
      unfold squeeze
      by_cases h2 : 2 < (b :: (takeR b l).1).length
      · rw [if_pos h2]
        exact ⟨b, _, rfl, hn.1, hn.2.1, hn.2.2.1⟩
      · rw [if_neg h2]
        exact ⟨b, _, rfl, hn.1, hn.2.1, hn.2.2.1⟩
theorem R_then {n : Nat} {l : List UInt8} (h : l.length ≤ n) {X : List UInt8} (hX : X.head? ≠ some 45) : (R n l ++ X).head? ≠ some 45 := by
  by_cases hl : l = []
  · subst hl
    rw [R_nil]
    exact hX
  · obtain ⟨c, Y, e, -, -, h3⟩ := R_head n l hl h
    rw [e, List.cons_append, List.head?_cons]
    exact fun q => h3 (Option.some.inj q)
theorem PR_one {f : Bool} {t : S4} (ht : okS t) {b : UInt8} (h : isSpec b = false) {X : List UInt8} (hX : X.head? ≠ some 45) {t' : S4} {m : Nat} (hr : PR false (addL t [b.toNat]) X t' m) : PR f t (b :: X) t' (1 + m) := by
  have hn := isSpec_no h
  refine .step (.inr ?_) (span_plain_L hn.2.2.2 hX) ?_
  · rw [List.head?_cons]
    exact fun q => hn.1 (Option.some.inj q)
  · unfold ofL
    rw [or_addL ht (bytes_lt _)]
    exact hr
theorem lastD_mem : ∀ (r : List UInt8) (d : UInt8), r.getLastD d ∈ d :: r
  | [], d => List.mem_singleton.2 rfl
  | a :: r, d => List.mem_cons_of_mem _ (by rw [List.getLastD_cons]; exact lastD_mem r a)
theorem PR_R : ∀ (n : Nat) (l : List UInt8), l.length ≤ n → ∀ (f : Bool) (t : S4) (X : List UInt8) (t' : S4) (m : Nat), okS t → X.head? ≠ some 45 → PR (f && l.isEmpty) (addL t (l.map UInt8.toNat)) X t' m → PR f t (R n l ++ X) t' ((R n l).length + m) := by
  intro n
  induction n with
  | zero =>
    intro l hl f t X t' m ht hX hr
    obtain rfl : l = [] := List.length_eq_zero_iff.1 (by omega)
    simpa [R_nil, addL] using hr
  | succ n ih =>
    intro l hl f t X t' m ht hX hr
    match l, hl, hr with
    | [], _, hr => simpa [R_nil, addL] using hr
    | b :: l, hl, hr =>
      have hl' : l.length ≤ n := by simpa using hl
      rw [List.isEmpty_cons, Bool.and_false] at hr
      rw [R]
      by_cases hs : isSpec b = true
      · rw [if_pos hs]
        have hb1 := addL_ok (l := [b.toNat]) (fun c hc => by rw [List.mem_singleton.1 hc]; exact b.toNat_lt) ht
        have h1 := ih l hl' false (addL t [b.toNat]) X t' m hb1 hX (by rw [Bool.false_and, ← addL_append]; exact hr)
        have h2 : PR f t (91 :: 46 :: b :: 46 :: 93 :: (R n l ++ X)) t' (5 + ((R n l).length + m)) := by
          refine .step (.inr (by rw [List.head?_cons]; decide)) (span_sym (R_then hl' hX)) ?_
          unfold ofL
          rw [or_addL ht (bytes_lt _)]
          exact h1
        have e : [91, 46, b, 46, 93] ++ R n l ++ X = 91 :: 46 :: b :: 46 :: 93 :: (R n l ++ X) := rfl
        rw [e, show ([91, 46, b, 46, 93] ++ R n l).length + m = 5 + ((R n l).length + m) by simp; omega]
        exact h2
      · rw [if_neg hs]
        have hs' := Bool.eq_false_iff.2 hs
        have hbn := isSpec_no hs'
        obtain ⟨hrun, hsp⟩ := takeR_run l b
        have happ := takeR_app l b
        obtain ⟨r, hrr⟩ : ∃ r, (takeR b l).1 = r := ⟨_, rfl⟩
        obtain ⟨q, hq⟩ : ∃ q, (takeR b l).2 = q := ⟨_, rfl⟩
        rw [hrr] at hrun hsp happ ⊢
        rw [hq] at happ ⊢
        have hql : q.length ≤ n := by have := takeR_len l b; rw [hq] at this; omega
        have hmap : (b :: l).map UInt8.toNat = (b :: r).map UInt8.toNat ++ q.map UInt8.toNat := by rw [← List.map_append, List.cons_append, happ]
        rw [hmap, addL_append] at hr
        have hok := addL_ok (bytes_lt (b :: r)) ht
        have h1 := ih q hql false _ X t' m hok hX (by rw [Bool.false_and]; exact hr)
        have hX2 := R_then (n := n) hql hX
        match r, hrun, hsp, h1 with
        | [], _, _, h1 =>
          have e : squeeze [b] ++ R n q ++ X = b :: (R n q ++ X) := rfl
          rw [e, show (squeeze [b] ++ R n q).length + m = 1 + ((R n q).length + m) by simp [squeeze]; omega]
          exact PR_one ht hs' hX2 h1
        | [c], _, hsp, h1 =>
          have e : squeeze [b, c] ++ R n q ++ X = b :: c :: (R n q ++ X) := rfl
          rw [e, show (squeeze [b, c] ++ R n q).length + m = 1 + (1 + ((R n q).length + m)) by simp [squeeze]; omega]
          have hcs := hsp c (List.mem_singleton.2 rfl)
          have hb1 := addL_ok (l := [b.toNat]) (fun d hd => by rw [List.mem_singleton.1 hd]; exact b.toNat_lt) ht
          refine PR_one ht hs' (by rw [List.head?_cons]; exact fun w => (isSpec_no hcs).2.2.1 (Option.some.inj w)) (PR_one hb1 hcs hX2 ?_)
          rw [← addL_append]
          exact h1
        | c :: d :: r, hrun, hsp, h1 =>
          obtain ⟨z, hz⟩ : ∃ z, (b :: c :: d :: r).getLastD 0 = z := ⟨_, rfl⟩
          have e : squeeze (b :: c :: d :: r) = [b, 45, z] := by
            unfold squeeze
            rw [if_pos (by simp), hz]
            rfl
          have hzm : z ∈ c :: d :: r := by
            rw [← hz]
            simp only [List.getLastD_cons]
            exact List.mem_cons_of_mem _ (lastD_mem r d)
          have hzs := isSpec_no (hsp z hzm)
          have hall : (b :: c :: d :: r).map UInt8.toNat = List.range' b.toNat (r.length + 3) := by
            rw [List.map_cons, hrun]
            rfl
          have hzn : z.toNat = b.toNat + r.length + 2 := by
            have h2 : ((b :: c :: d :: r).map UInt8.toNat)[r.length + 2]? = some z.toNat := by
              rw [List.getElem?_map, ← hz, List.getLastD_eq_getLast?, List.getLast?_eq_getElem?]
              simp
            rw [hall, List.getElem?_range' (by omega)] at h2
            have := Option.some.inj h2
            omega
          have hset : addL zeroS (List.range' b.toNat (z.toNat - b.toNat + 1)) = ofL (b :: c :: d :: r) := by
            unfold ofL
            rw [hall, show z.toNat - b.toNat + 1 = r.length + 3 by omega]
          have h2 : PR f t (b :: 45 :: z :: (R n q ++ X)) t' (3 + ((R n q).length + m)) := by
            refine .step (.inr ?_) (span_rng hbn.2.2.2 hzs.2.2.2 hzs.1 (by omega) hX2) ?_
            · rw [List.head?_cons]
              exact fun w => hbn.1 (Option.some.inj w)
            · rw [hset]
              unfold ofL
              rw [or_addL ht (bytes_lt _)]
              exact h1
          rw [e, show [b, 45, z] ++ R n q ++ X = b :: 45 :: z :: (R n q ++ X) from rfl, show ([b, 45, z] ++ R n q).length + m = 3 + ((R n q).length + m) by simp; omega]
          exact h2
end Go.Proofs.YtcmipoicnonaeaaDoor.F
end
section
namespace Go.Proofs.YtcmipoicnonaeaaDoor.F
open Go.RowKit Go.Proofs.YtcmipoicnonaeaaDoorW.PrintWords Go.Proofs.YtcmipoicnonaeaaDoorW.PrintLast Go.Proofs.YtcmipoicnonaeaaDoorW.PrintMore
attribute [local go_sem] max2_int min2_int max_two min_two max_three min_three max_four min_four
set_option linter.unusedVariables false
set_option linter.unusedSimpArgs false
end Go.Proofs.YtcmipoicnonaeaaDoor.F
end
section
namespace Go.Proofs.YtcmipoicnonaeaaDoor.Pure
open Go.RowKit Go.Proofs.YtcmipoicnonaeaaDoor.F Go.Proofs.YtcmipoicnonaeaaDoorW.PrintWords
set_option linter.unusedVariables false
theorem bText_eq {s : S4} (h : okS s) : bracket_Text.f s.1 s.2.1 s.2.2.1 s.2.2.2 = some (if s = zeroS then ⟨#[91, 94, 0, 45, 255, 93]⟩ else strOfNums (toI (textL (membL s.1 s.2.1 s.2.2.1 s.2.2.2)))) := by
  unfold bracket_Text.f
  rw [if_pos (show u64ok s.1 ∧ u64ok s.2.1 ∧ u64ok s.2.2.1 ∧ u64ok s.2.2.2 from h)]
  by_cases hz : s = zeroS
  · subst hz
    rw [if_pos ⟨rfl, rfl, rfl, rfl⟩, if_pos rfl]
  · rw [if_neg (fun q => hz (by obtain ⟨s0, s1, s2, s3⟩ := s; simp only at q; obtain ⟨rfl, rfl, rfl, rfl⟩ := q; rfl)), if_pos (membL_len h), if_neg hz]
    rfl
end Go.Proofs.YtcmipoicnonaeaaDoor.Pure
end
section
namespace Go.Proofs.YtcmipoicnonaeaaDoor.F
open Go.RowKit Go.Proofs.YtcmipoicnonaeaaDoorW.PrintWords Go.Proofs.YtcmipoicnonaeaaDoorW.PrintLast
set_option linter.unusedVariables false
set_option linter.unusedSimpArgs false
theorem textL_len (l : List UInt8) : (textL l).length ≤ 2 + 5 * l.length := by
  have h1 := (foldT_len l).1
  have h2 := squeeze_len (foldT l).2
  unfold textL
  simp only [List.length_append, List.length_cons, List.length_nil]
  omega
theorem toI_str (l : List UInt8) : (strOfNums (toI l)).data.toList = l := by
  have := strOf_bts_list l
  rwa [show bts l = toI l from rfl] at this
def membS (s : S4) : List UInt8 := membL s.1 s.2.1 s.2.2.1 s.2.2.2
theorem addL_memb {s : S4} (h : okS s) : addL zeroS ((membS s).map UInt8.toNat) = s := by
  unfold membS
  rw [membL_nat h]
  refine ext4 (addL_ok (memN_lt s) zeroS_ok) h fun c hc => ?_
  rw [has_addL (memN_lt s) hc zeroS_ok, has_zero, Bool.false_or]
  unfold memN
  exact mem_range0 hc (has s)
theorem text_R {s : S4} (h : okS s) : textL (membS s) = 91 :: (R (membS s).length (membS s) ++ [93]) := by
  have := textL_R (l := membS s) (membL_rise h) (Nat.le_refl _)
  rw [this]
  rfl
theorem bText_list {s : S4} (h : okS s) : ∃ T : ByteArray, bracket_Text.f s.1 s.2.1 s.2.2.1 s.2.2.2 = some T ∧ T.size ≤ 2000 ∧ T.data.toList = if s = zeroS then [91, 94, 0, 45, 255, 93] else textL (membS s) := by
  refine ⟨_, Pure.bText_eq h, ?_, ?_⟩
  · rw [size_list]
    have := textL_len (membS s)
    have h2 := membL_len h
    have h3 : (membS s).length ≤ 256 := h2
    split
    · simp
    · rw [toI_str]
      show (textL (membS s)).length ≤ 2000
      omega
  · split
    · rfl
    · exact toI_str _
theorem head_R {n : Nat} {l : List UInt8} (hl : l ≠ []) (hn : l.length ≤ n) (X : List UInt8) : (R n l ++ X).head? ≠ some 94 := by
  obtain ⟨c, Y, e, -, h2, -⟩ := R_head n l hl hn
  rw [e, List.cons_append, List.head?_cons]
  exact fun q => h2 (Option.some.inj q)
end Go.Proofs.YtcmipoicnonaeaaDoor.F
end
section
namespace Go.Proofs.YtcmipoicnonaeaaDoor.F
open Go.RowKit Go.Proofs.YtcmipoicnonaeaaDoorW.PrintWords Go.Proofs.YtcmipoicnonaeaaDoorW.PrintLast Go.Proofs.YtcmipoicnonaeaaDoorW.PrintMore
attribute [local go_sem] max2_int min2_int max_two min_two max_three min_three max_four min_four
set_option linter.unusedVariables false
set_option linter.unusedSimpArgs false
end Go.Proofs.YtcmipoicnonaeaaDoor.F
end
section
namespace Go.Proofs.YtcmipoicnonaeaaDoor.F
open Go.RowKit Go.Proofs.YtcmipoicnonaeaaDoorW.PrintWords Go.Proofs.YtcmipoicnonaeaaDoorW.PrintLast Go.Proofs.YtcmipoicnonaeaaDoorW.PrintMore
attribute [local go_sem] max2_int min2_int max_two min_two max_three min_three max_four min_four
set_option linter.unusedVariables false
set_option linter.unusedSimpArgs false
attribute [local go_sem high] eqA24
end Go.Proofs.YtcmipoicnonaeaaDoor.F
end
section
namespace Go.Proofs.YtcmipoicnonaeaaDoor.F
open Go.RowKit Go.Proofs.YtcmipoicnonaeaaDoorW.PrintWords Go.Proofs.YtcmipoicnonaeaaDoorW.PrintLast
set_option linter.unusedVariables false
set_option linter.unusedSimpArgs false
theorem aw_true (j : Nat) : runnellaw03_awake.f (300 + j) = some true := by
  have h0 : runnellaw03_awake.f 300 = some true := by kernel_rfl
  exact mono_up (f := runnellaw03_awake.f) runnellaw03_awake.mono h0 j
end Go.Proofs.YtcmipoicnonaeaaDoor.F
namespace Go.Proofs.YtcmipoicnonaeaaDoor.Pure
open Go.RowKit Go.Proofs.YtcmipoicnonaeaaDoor.F Go.Proofs.YtcmipoicnonaeaaDoorW.PrintWords
end Go.Proofs.YtcmipoicnonaeaaDoor.Pure
end
