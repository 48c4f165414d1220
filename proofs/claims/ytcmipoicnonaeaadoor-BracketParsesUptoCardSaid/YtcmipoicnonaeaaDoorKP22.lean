/- Texts of this claim, 22 of 23: PureSets, PureSets2, PureParse1, PureParse2, PureParse3, PureParse4, PureBracketParses. -/
import Derived.Laws.BitsAllLaws
import Derived.Lib.Zigzag
import Derived.KernelRfl
import Derived.Test.YtcmipoicnonaeaaDoorKP6
import Derived.Test.YtcmipoicnonaeaaDoorKP7
import Derived.Test.YtcmipoicnonaeaaDoorKP8
import Derived.Test.YtcmipoicnonaeaaDoorKP10
import Derived.Test.YtcmipoicnonaeaaDoorKP11
import Derived.Test.YtcmipoicnonaeaaDoorKP12
import Derived.Test.YtcmipoicnonaeaaDoorKP15
import Derived.Test.YtcmipoicnonaeaaDoorKP21
section
namespace Go.Proofs.YtcmipoicnonaeaaDoor.F
open Go.RowKit Go.Proofs.YtcmipoicnonaeaaDoorW.PrintWords
set_option linter.unusedVariables false
set_option linter.unusedSimpArgs false
def w64 (x : Int) : Prop := 0 ≤ x ∧ x < 18446744073709551616
abbrev S4 := Int × Int × Int × Int
def okS (s : S4) : Prop := w64 s.1 ∧ w64 s.2.1 ∧ w64 s.2.2.1 ∧ w64 s.2.2.2
def wrd (s : S4) (k : Nat) : Nat := if k = 0 then s.1.toNat else if k = 1 then s.2.1.toNat else if k = 2 then s.2.2.1.toNat else s.2.2.2.toNat
def has (s : S4) (b : Nat) : Bool := (wrd s (b / 64)).testBit (b % 64)
theorem wrd_lt {s : S4} (h : okS s) (k : Nat) : wrd s k < 2 ^ 64 := by
  obtain ⟨h0, h1, h2, h3⟩ := h
  unfold w64 at *
  unfold wrd
  split
  · omega
  · split
    · omega
    · split <;> omega
theorem int_pow (m : Nat) : (2 : Int) ^ m = ((2 ^ m : Nat) : Int) := by simp
theorem hasBit_eq {s : S4} (h : okS s) {b : Nat} (hb : b < 256) : hasBit s.1 s.2.1 s.2.2.1 s.2.2.2 (b : Int) = has s b := by
  have hw : wordOf s.1 s.2.1 s.2.2.1 s.2.2.2 (b : Int) = (wrd s (b / 64) : Int) := by
    obtain ⟨h0, h1, h2, h3⟩ := h
    unfold w64 at *
    unfold wordOf wrd
    rcases (by omega : b / 64 = 0 ∨ b / 64 = 1 ∨ b / 64 = 2 ∨ b / 64 = 3) with e | e | e | e
    all_goals
      have e' : (b : Int) / 64 = ((b / 64 : Nat) : Int) := by omega
      rw [e', e]
      simp
      omega
  have hlt := wrd_lt h (b / 64)
  unfold hasBit
  rw [hw, show ((b : Int) % 64).toNat = b % 64 by omega, int_pow]
  rw [show ((wrd s (b / 64) : Int) / ((2 ^ (b % 64) : Nat) : Int)) = ((wrd s (b / 64) / 2 ^ (b % 64) : Nat) : Int) by simp]
  have hq : wrd s (b / 64) / 2 ^ (b % 64) < 18446744073709551616 := Nat.lt_of_le_of_lt (Nat.div_le_self _ _) (by simpa using hlt)
  unfold has
  rw [Nat.testBit_eq_decide_div_mod_eq]
  obtain ⟨q, hqq⟩ : ∃ q, wrd s (b / 64) / 2 ^ (b % 64) = q := ⟨_, rfl⟩
  rw [hqq] at hq ⊢
  rw [Go.Lib.u64_and1 _ (by omega) (by omega)]
  by_cases hx : q % 2 = 1
  · rw [decide_eq_true hx, show ((q : Int) % 2) = 1 by omega]; rfl
  · rw [decide_eq_false hx, show ((q : Int) % 2) = 0 by omega]; rfl
theorem ext4 {s t : S4} (hs : okS s) (ht : okS t) (h : ∀ b, b < 256 → has s b = has t b) : s = t := by
  have hk : ∀ k, k < 4 → wrd s k = wrd t k := by
    intro k hk
    apply Nat.eq_of_testBit_eq
    intro i
    by_cases hi : i < 64
    · have := h (k * 64 + i) (by omega)
      unfold has at this
      rw [show (k * 64 + i) / 64 = k by omega, show (k * 64 + i) % 64 = i by omega] at this
      exact this
    · rw [Nat.testBit_lt_two_pow (Nat.lt_of_lt_of_le (wrd_lt hs k) (Nat.pow_le_pow_right (by decide) (by omega))), Nat.testBit_lt_two_pow (Nat.lt_of_lt_of_le (wrd_lt ht k) (Nat.pow_le_pow_right (by decide) (by omega)))]
  have e0 := hk 0 (by decide)
  have e1 := hk 1 (by decide)
  have e2 := hk 2 (by decide)
  have e3 := hk 3 (by decide)
  simp only [wrd] at e0 e1 e2 e3
  obtain ⟨s0, s1, s2, s3⟩ := s
  obtain ⟨t0, t1, t2, t3⟩ := t
  simp only [okS, w64] at hs ht
  simp at e0 e1 e2 e3
  simp only [Prod.mk.injEq]
  omega
def addS (s : S4) (b : Int) : S4 := (orBit s.1 0 b, orBit s.2.1 1 b, orBit s.2.2.1 2 b, orBit s.2.2.2 3 b)
theorem w64_pow {m : Nat} (h : m < 64) : w64 ((2 : Int) ^ m) := by
  have h1 : (2 : Nat) ^ m < 2 ^ 64 := Nat.pow_lt_pow_right (by decide) h
  have h2 : (2 : Nat) ^ m ≥ 0 := Nat.zero_le _
  rw [int_pow]
  unfold w64
  omega
theorem orBit_nat {x : Int} (hx : w64 x) (k b : Nat) (hb : b < 256) : w64 (orBit x (k : Int) (b : Int)) ∧ (orBit x (k : Int) (b : Int)).toNat = if b / 64 = k then x.toNat ||| 2 ^ (b % 64) else x.toNat := by
  unfold orBit
  by_cases h : b / 64 = k
  · have h' : (b : Int) / 64 = (k : Int) := by omega
    rw [if_pos h', if_pos h]
    have hp := w64_pow (m := b % 64) (by omega)
    rw [show ((b : Int) % 64).toNat = b % 64 by omega, u64_or x _ hx.1 hx.2 hp.1 hp.2]
    have e : ((2 : Int) ^ (b % 64)).toNat = 2 ^ (b % 64) := by rw [int_pow]; exact Int.toNat_natCast _
    rw [e]
    have hlt : x.toNat ||| 2 ^ (b % 64) < 2 ^ 64 := Nat.or_lt_two_pow (by have := hx; unfold w64 at this; omega) (Nat.pow_lt_pow_right (by decide) (by omega))
    refine ⟨?_, Int.toNat_natCast _⟩
    unfold w64
    omega
  · rw [if_neg (by omega), if_neg h]
    exact ⟨hx, rfl⟩
theorem addS_ok {s : S4} (h : okS s) {b : Nat} (hb : b < 256) : okS (addS s b) :=
  ⟨(orBit_nat h.1 0 b hb).1, (orBit_nat h.2.1 1 b hb).1, (orBit_nat h.2.2.1 2 b hb).1, (orBit_nat h.2.2.2 3 b hb).1⟩
theorem addS_wrd {s : S4} (h : okS s) {b : Nat} (hb : b < 256) (k : Nat) (hk : k < 4) : wrd (addS s b) k = if b / 64 = k then wrd s k ||| 2 ^ (b % 64) else wrd s k := by
  have a0 := (orBit_nat h.1 0 b hb).2
  have a1 := (orBit_nat h.2.1 1 b hb).2
  have a2 := (orBit_nat h.2.2.1 2 b hb).2
  have a3 := (orBit_nat h.2.2.2 3 b hb).2
  rcases (by omega : k = 0 ∨ k = 1 ∨ k = 2 ∨ k = 3) with rfl | rfl | rfl | rfl
  · exact a0
  · exact a1
  · exact a2
  · exact a3
theorem has_addS {s : S4} (h : okS s) {b c : Nat} (hb : b < 256) (hc : c < 256) : has (addS s b) c = (has s c || decide (c = b)) := by
  unfold has
  rw [addS_wrd h hb _ (by omega)]
  by_cases e : b / 64 = c / 64
  · rw [if_pos e, Nat.testBit_or, Nat.testBit_two_pow]
    congr 1
    by_cases hcb : c = b
    · subst hcb; simp
    · rw [decide_eq_false hcb, decide_eq_false (by omega)]
  · rw [if_neg e, decide_eq_false (by omega), Bool.or_false]
def zeroS : S4 := (0, 0, 0, 0)
theorem zeroS_ok : okS zeroS := by simp [okS, zeroS, w64]
theorem has_zero (b : Nat) : has zeroS b = false := by
  unfold has wrd zeroS
  split
  · simp
  · split
    · simp
    · split <;> simp
def orS (s t : S4) : S4 := (Go.bits .or .u64 s.1 t.1, Go.bits .or .u64 s.2.1 t.2.1, Go.bits .or .u64 s.2.2.1 t.2.2.1, Go.bits .or .u64 s.2.2.2 t.2.2.2)
theorem or_nat {x y : Int} (hx : w64 x) (hy : w64 y) : w64 (Go.bits .or .u64 x y) ∧ (Go.bits .or .u64 x y).toNat = x.toNat ||| y.toNat := by
  rw [u64_or x y hx.1 hx.2 hy.1 hy.2]
  have hlt : x.toNat ||| y.toNat < 2 ^ 64 := Nat.or_lt_two_pow (by unfold w64 at hx; omega) (by unfold w64 at hy; omega)
  refine ⟨?_, Int.toNat_natCast _⟩
  unfold w64
  omega
theorem orS_ok {s t : S4} (hs : okS s) (ht : okS t) : okS (orS s t) := ⟨(or_nat hs.1 ht.1).1, (or_nat hs.2.1 ht.2.1).1, (or_nat hs.2.2.1 ht.2.2.1).1, (or_nat hs.2.2.2 ht.2.2.2).1⟩
theorem has_orS {s t : S4} (hs : okS s) (ht : okS t) {c : Nat} (hc : c < 256) : has (orS s t) c = (has s c || has t c) := by
  have a0 := (or_nat hs.1 ht.1).2
  have a1 := (or_nat hs.2.1 ht.2.1).2
  have a2 := (or_nat hs.2.2.1 ht.2.2.1).2
  have a3 := (or_nat hs.2.2.2 ht.2.2.2).2
  unfold has
  rw [← Nat.testBit_or]
  congr 1
  rcases (by omega : c / 64 = 0 ∨ c / 64 = 1 ∨ c / 64 = 2 ∨ c / 64 = 3) with e | e | e | e <;> rw [e]
  · exact a0
  · exact a1
  · exact a2
  · exact a3
def notS (s : S4) : S4 := (Go.bits .xor .u64 (-1) s.1, Go.bits .xor .u64 (-1) s.2.1, Go.bits .xor .u64 (-1) s.2.2.1, Go.bits .xor .u64 (-1) s.2.2.2)
theorem xor_nat {x : Int} (hx : w64 x) : w64 (Go.bits .xor .u64 (-1) x) ∧ (Go.bits .xor .u64 (-1) x).toNat = 2 ^ 64 - (x.toNat + 1) := by
  have e : Go.bits .xor .u64 (-1) x = Go.bits .xor .u64 18446744073709551615 x := by
    unfold Go.bits
    rw [show BitVec.ofInt IntKind.u64.bits (-1) = BitVec.ofInt IntKind.u64.bits 18446744073709551615 by decide]
  rw [e, u64_xor _ x (by omega) (by omega) hx.1 hx.2]
  have h1 : x.toNat < 2 ^ 64 := by unfold w64 at hx; omega
  have h2 : (18446744073709551615 : Int).toNat ^^^ x.toNat = 2 ^ 64 - (x.toNat + 1) := by
    apply Nat.eq_of_testBit_eq
    intro i
    rw [Nat.testBit_two_pow_sub_succ h1, Nat.testBit_xor, show (18446744073709551615 : Int).toNat = 2 ^ 64 - 1 by decide, Nat.testBit_two_pow_sub_one]
    by_cases hi : i < 64
    · simp [hi]
    · rw [Nat.testBit_lt_two_pow (Nat.lt_of_lt_of_le h1 (Nat.pow_le_pow_right (by decide) (by omega)))]
      simp [hi]
  rw [h2]
  refine ⟨?_, Int.toNat_natCast _⟩
  unfold w64
  omega
theorem notS_ok {s : S4} (hs : okS s) : okS (notS s) := ⟨(xor_nat hs.1).1, (xor_nat hs.2.1).1, (xor_nat hs.2.2.1).1, (xor_nat hs.2.2.2).1⟩
theorem has_notS {s : S4} (hs : okS s) {c : Nat} (hc : c < 256) : has (notS s) c = !has s c := by
  have a0 := (xor_nat hs.1).2
  have a1 := (xor_nat hs.2.1).2
  have a2 := (xor_nat hs.2.2.1).2
  have a3 := (xor_nat hs.2.2.2).2
  have hw : wrd (notS s) (c / 64) = 2 ^ 64 - (wrd s (c / 64) + 1) := by
    rcases (by omega : c / 64 = 0 ∨ c / 64 = 1 ∨ c / 64 = 2 ∨ c / 64 = 3) with e | e | e | e <;> rw [e]
    · exact a0
    · exact a1
    · exact a2
    · exact a3
  unfold has
  rw [hw, Nat.testBit_two_pow_sub_succ (wrd_lt hs _)]
  simp [Nat.mod_lt]
def addL (s : S4) (l : List Nat) : S4 := l.foldl (fun (s : S4) (b : Nat) => addS s (b : Int)) s
theorem addL_ok {l : List Nat} (hl : ∀ b ∈ l, b < 256) : ∀ {s : S4}, okS s → okS (addL s l) := by
  induction l with
  | nil => intro s h; exact h
  | cons b l ih => intro s h; exact ih (fun c hc => hl c (List.mem_cons_of_mem _ hc)) (addS_ok h (hl b List.mem_cons_self))
theorem has_addL {l : List Nat} (hl : ∀ b ∈ l, b < 256) {c : Nat} (hc : c < 256) : ∀ {s : S4}, okS s → has (addL s l) c = (has s c || decide (c ∈ l)) := by
  induction l with
  | nil => intro s h; simp [addL]
  | cons b l ih =>
    intro s h
    have hb := hl b List.mem_cons_self
    show has (addL (addS s b) l) c = _
    rw [ih (fun c hc => hl c (List.mem_cons_of_mem _ hc)) (addS_ok h hb), has_addS h hb hc]
    simp [Bool.or_assoc, eq_comm]
end Go.Proofs.YtcmipoicnonaeaaDoor.F
end
section
namespace Go.Proofs.YtcmipoicnonaeaaDoor.F
open Go.RowKit Go.Proofs.YtcmipoicnonaeaaDoorW.PrintWords
set_option linter.unusedVariables false
set_option linter.unusedSimpArgs false
theorem With_eq (s : S4) {b : Int} (h0 : 0 ≤ b) (h1 : b < 256) : runnelref02_With.f s.1 s.2.1 s.2.2.1 s.2.2.2 b = some (addS s b) := by
  unfold runnelref02_With.f
  rw [if_pos ⟨h0, h1⟩]
  rfl
theorem Has_eq {s : S4} (h : okS s) {b : Nat} (hb : b < 256) : runnelref02_Has.f s.1 s.2.1 s.2.2.1 s.2.2.2 (b : Int) = some (has s b) := by
  unfold runnelref02_Has.f
  rw [if_pos (by omega), hasBit_eq h hb]
theorem wrap_nat {n : Nat} (h : n ≤ 9223372036854775807) : wrap64 (n : Int) = (n : Int) := wrap_id (by omega) (by omega)
theorem wrap_succ {n : Nat} (h : n < 9223372036854775807) : wrap64 ((n : Int) + 1) = ((n + 1 : Nat) : Int) := by rw [wrap_id (by omega) (by omega)]; omega
theorem Not_loop {s : S4} (hs : okS s) : ∀ (n : Nat) (x : Nat) (t : S4), x + n = 256 → ∀ j, runnelref02_Not.l0 (n + 1 + j) (x : Int) s.1 s.2.1 s.2.2.1 s.2.2.2 t.1 t.2.1 t.2.2.1 t.2.2.2 = some (addL t ((List.range' x n).filter fun b => !has s b))
  | 0, x, t, h, j => by
    rw [show 0 + 1 + j = j + 1 by omega, runnelref02_Not.l0, if_neg (by omega)]
    rfl
  | n + 1, x, t, h, j => by
    rw [show n + 1 + 1 + j = (n + 1 + j) + 1 by omega, runnelref02_Not.l0, if_pos (by omega), Has_eq hs (by omega), Option.bind_some, wrap_succ (by omega), List.range'_succ]
    cases hh : has s x with
    | true =>
      rw [if_pos rfl, Not_loop hs n (x + 1) t (by omega) j, List.filter_cons_of_neg (by simp [hh])]
    | false =>
      rw [if_neg (by decide), With_eq t (by omega) (by omega), Option.bind_some, Not_loop hs n (x + 1) (addS t x) (by omega) j, List.filter_cons_of_pos (by simp [hh])]
      rfl
theorem mem_range0 {c : Nat} (hc : c < 256) (p : Nat → Bool) : decide (c ∈ (List.range' 0 256).filter p) = p c := by
  have : c ∈ (List.range' 0 256).filter p ↔ p c = true := by
    rw [List.mem_filter, List.mem_range'_1]
    exact ⟨fun h => h.2, fun h => ⟨by omega, h⟩⟩
  rw [Bool.eq_iff_iff, decide_eq_true_iff]
  exact this
theorem filt_lt (p : Nat → Bool) : ∀ b ∈ (List.range' 0 256).filter p, b < 256 := by
  intro b hb
  have := (List.mem_filter.1 hb).1
  rw [List.mem_range'_1] at this
  omega
theorem Not_eq {s : S4} (hs : okS s) (j : Nat) : runnelref02_Not.f (257 + j) s.1 s.2.1 s.2.2.1 s.2.2.2 = some (notS s) := by
  unfold runnelref02_Not.f
  have h := Not_loop hs 256 0 zeroS rfl j
  rw [show 256 + 1 + j = 257 + j by omega] at h
  refine h.trans (congrArg some ?_)
  refine ext4 (addL_ok (filt_lt _) zeroS_ok) (notS_ok hs) fun c hc => ?_
  rw [has_addL (filt_lt _) hc zeroS_ok, has_zero, mem_range0 hc, has_notS hs hc]
  rfl
theorem Or_loop {s u : S4} (hs : okS s) (hu : okS u) : ∀ (n : Nat) (x : Nat) (t : S4), x + n = 256 → ∀ j, runnelref02_Or.l0 (n + 1 + j) (x : Int) s.1 s.2.1 s.2.2.1 s.2.2.2 u.1 u.2.1 u.2.2.1 u.2.2.2 t.1 t.2.1 t.2.2.1 t.2.2.2 = some (addL t ((List.range' x n).filter fun b => has s b || has u b))
  | 0, x, t, h, j => by
    rw [show 0 + 1 + j = j + 1 by omega, runnelref02_Or.l0, if_neg (by omega)]
    rfl
  | n + 1, x, t, h, j => by
    rw [show n + 1 + 1 + j = (n + 1 + j) + 1 by omega, runnelref02_Or.l0, if_pos (by omega), Has_eq hs (by omega), Option.bind_some, wrap_succ (by omega), List.range'_succ]
    cases hh : has s x with
    | true =>
      rw [if_pos rfl, With_eq t (by omega) (by omega), Option.bind_some, Or_loop hs hu n (x + 1) (addS t x) (by omega) j, List.filter_cons_of_pos (by simp [hh])]
      rfl
    | false =>
      rw [if_neg (by decide), Has_eq hu (by omega), Option.bind_some]
      cases hg : has u x with
      | true =>
        rw [if_pos rfl, With_eq t (by omega) (by omega), Option.bind_some, Or_loop hs hu n (x + 1) (addS t x) (by omega) j, List.filter_cons_of_pos (by simp [hg])]
        rfl
      | false => rw [if_neg (by decide), Or_loop hs hu n (x + 1) t (by omega) j, List.filter_cons_of_neg (by simp [hh, hg])]
theorem Or_eq {s u : S4} (hs : okS s) (hu : okS u) (j : Nat) : runnelref02_Or.f (257 + j) s.1 s.2.1 s.2.2.1 s.2.2.2 u.1 u.2.1 u.2.2.1 u.2.2.2 = some (orS s u) := by
  unfold runnelref02_Or.f
  have h := Or_loop hs hu 256 0 zeroS rfl j
  rw [show 256 + 1 + j = 257 + j by omega] at h
  refine h.trans (congrArg some ?_)
  refine ext4 (addL_ok (filt_lt _) zeroS_ok) (orS_ok hs hu) fun c hc => ?_
  rw [has_addL (filt_lt _) hc zeroS_ok, has_zero, mem_range0 hc, has_orS hs hu hc]
  rfl
theorem Members_loop {s : S4} (hs : okS s) : ∀ (n : Nat) (x : Nat) (l : List Int), x + n = 256 → l.length ≤ x → ∀ j, runnelref02_Members.l0 (n + 1 + j) l (x : Int) s.1 s.2.1 s.2.2.1 s.2.2.2 = some (l ++ ((List.range' x n).filter (has s)).map (fun (b : Nat) => (b : Int)))
  | 0, x, l, h, _, j => by
    rw [show 0 + 1 + j = j + 1 by omega, runnelref02_Members.l0, if_neg (by omega)]
    simp
  | n + 1, x, l, h, hl, j => by
    rw [show n + 1 + 1 + j = (n + 1 + j) + 1 by omega, runnelref02_Members.l0, if_pos (by omega), Has_eq hs (by omega), Option.bind_some, wrap_succ (by omega), List.range'_succ]
    cases hh : has s x with
    | true =>
      rw [if_pos rfl, if_pos (by omega), Members_loop hs n (x + 1) _ (by omega) (by simp; omega) j, List.filter_cons_of_pos hh]
      simp
      omega
    | false =>
      rw [if_neg (by decide), Members_loop hs n (x + 1) _ (by omega) (by omega) j, List.filter_cons_of_neg (by simp [hh])]
def memN (s : S4) : List Nat := (List.range' 0 256).filter (has s)
theorem Members_eq {s : S4} (hs : okS s) (j : Nat) : runnelref02_Members.f (257 + j) s.1 s.2.1 s.2.2.1 s.2.2.2 = some ((memN s).map (fun (b : Nat) => (b : Int))) := by
  have h := Members_loop hs 256 0 [] rfl (by simp) j
  rw [show 256 + 1 + j = 257 + j by omega] at h
  exact h
theorem orBytes_eq : ∀ (l : List UInt8) (s : S4), orBytes l s = addL s (l.map UInt8.toNat)
  | [], s => rfl
  | b :: l, s => orBytes_eq l _
theorem bytes_lt (l : List UInt8) : ∀ b ∈ l.map UInt8.toNat, b < 256 := by
  intro b hb
  obtain ⟨c, _, rfl⟩ := List.mem_map.1 hb
  exact c.toNat_lt
def ofS (a : ByteArray) : S4 := addL zeroS (a.data.toList.map UInt8.toNat)
theorem ofS_ok (a : ByteArray) : okS (ofS a) := addL_ok (bytes_lt _) zeroS_ok
theorem bOf_eq {a : ByteArray} (h : a.size ≤ 9223372036854775807) : bset_Of.f a = some (ofS a) := by
  unfold bset_Of.f
  rw [if_pos h, orBytes_eq]
  rfl
theorem Of_loop (a : ByteArray) (h : a.size < 9223372036854775807) : ∀ (n : Nat) (x : Nat) (t : S4), x + n = a.size → ∀ j, runnelref02_Of.l0 (n + 1 + j) a (x : Int) t.1 t.2.1 t.2.2.1 t.2.2.2 = some (addL t ((a.data.toList.drop x).map UInt8.toNat))
  | 0, x, t, hx, j => by
    rw [show 0 + 1 + j = j + 1 by omega, runnelref02_Of.l0, if_neg (by omega), List.drop_eq_nil_of_le (by simp; omega)]
    rfl
  | n + 1, x, t, hx, j => by
    have hb := bt_range a (x : Int)
    have hlt : x < a.size := by omega
    rw [show n + 1 + 1 + j = (n + 1 + j) + 1 by omega, runnelref02_Of.l0, if_pos (by omega), if_pos (by omega), wrap_id (by omega) (by omega), With_eq t (by omega) (by omega), Option.bind_some, wrap_succ (by omega), Of_loop a h n (x + 1) _ (by omega) j, drop_cons_ hlt]
    have e : bt a (x : Int) = ((a[x].toNat : Nat) : Int) := (bt_at a x (by simpa using hlt)).symm
    rw [e]
    rfl
theorem Of_eq {a : ByteArray} (h : a.size < 9223372036854775807) (j : Nat) : runnelref02_Of.f (a.size + 1 + j) a = some (ofS a) := by
  have := Of_loop a h a.size 0 zeroS (by omega) j
  exact this
end Go.Proofs.YtcmipoicnonaeaaDoor.F
end
section
namespace Go.Proofs.YtcmipoicnonaeaaDoor.F
open Go.RowKit Go.Proofs.YtcmipoicnonaeaaDoorW.PrintWords
set_option linter.unusedVariables false
set_option linter.unusedSimpArgs false
theorem bt_get {s : ByteArray} {i : Nat} (h : i < s.size) : bt s (i : Int) = (s[i].toNat : Int) := (bt_at s i (by simpa using h)).symm
theorem closes_eq (s : ByteArray) (hs : s.size < 4294967296) (m : Int) (hm : 0 ≤ m ∧ m < 256) : ∀ (n a : Nat), s.size - a ≤ n → a ≤ 4294967299 → ∀ j,
    runnelref03_closes.l0 (n + 1 + j) s m (a : Int) = some (if Lib.index (s.data.toList.drop a) [m.toNat.toUInt8, 93] < 0 then -1 else (a : Int) + Lib.index (s.data.toList.drop a) [m.toNat.toUInt8, 93]) := by
  intro n
  induction n with
  | zero =>
    intro a h ha j
    rw [show 0 + 1 + j = j + 1 by omega, runnelref03_closes.l0, wrap_id (by omega) (by omega), if_neg (by omega), List.drop_eq_nil_of_le (by simp; omega)]
    rfl
  | succ n ih =>
    intro a h ha j
    by_cases h0 : a < s.size
    · have hd : s.data.toList.drop a = s[a] :: s.data.toList.drop (a + 1) := drop_cons_ h0
      rw [show n + 1 + 1 + j = (n + 1 + j) + 1 by omega, runnelref03_closes.l0, wrap_succ (by omega)]
      have hrec := ih (a + 1) (by omega) (by omega) j
      by_cases h1 : a + 1 < s.size
      · have hd1 : s.data.toList.drop (a + 1) = s[a + 1] :: s.data.toList.drop (a + 1 + 1) := drop_cons_ h1
        rw [if_pos (by omega), if_pos (by omega), if_pos (by omega), bt_get h0, bt_get h1]
        have fin_ : ∀ x : Int, -1 ≤ x → some (if x < 0 then (-1 : Int) else ((a + 1 : Nat) : Int) + x) = some (if (if x < 0 then (-1 : Int) else x + 1) < 0 then (-1 : Int) else (a : Int) + (if x < 0 then (-1 : Int) else x + 1)) := by
          intro x hx
          by_cases q : x < 0
          · simp [q]
          · rw [if_neg q, if_neg q, if_neg (by omega)]
            congr 1
            omega
        have hx0 := (s[a]).toNat_lt
        have hx1 := (s[a + 1]).toNat_lt
        have hmm : m.toNat.toUInt8.toNat = m.toNat := by
          simp only [Nat.toUInt8, UInt8.toNat_ofNat']
          omega
        have e0 : ((s[a].toNat : Int) = m) ↔ m.toNat.toUInt8 = s[a] := by
          constructor
          · intro e; apply UInt8.toNat_inj.1; omega
          · intro e; rw [← e]; omega
        have e1 : ((s[a + 1].toNat : Int) = 93) ↔ (93 : UInt8) = s[a + 1] := by
          constructor
          · intro e; apply UInt8.toNat_inj.1; show 93 = _; omega
          · intro e; rw [← e]; rfl
        have hge := Lib.index_ge (s.data.toList.drop (a + 1)) [m.toNat.toUInt8, 93]
        have hix : Lib.index (s.data.toList.drop a) [m.toNat.toUInt8, 93] = if m.toNat.toUInt8 = s[a] ∧ (93 : UInt8) = s[a + 1] then 0 else if Lib.index (s.data.toList.drop (a + 1)) [m.toNat.toUInt8, 93] < 0 then -1 else Lib.index (s.data.toList.drop (a + 1)) [m.toNat.toUInt8, 93] + 1 := by
          rw [hd, Lib.index]
          have hp : [m.toNat.toUInt8, (93 : UInt8)].isPrefixOf (s[a] :: s.data.toList.drop (a + 1)) = (m.toNat.toUInt8 == s[a] && (93 : UInt8) == s[a + 1]) := by
            rw [hd1]
            simp [List.isPrefixOf]
          rw [hp]
          by_cases q0 : m.toNat.toUInt8 = s[a] ∧ (93 : UInt8) = s[a + 1]
          · rw [if_pos (by simp [q0.1, ← q0.2]), if_pos q0]
          · rw [if_neg (by simpa using q0), if_neg q0]
            by_cases q1 : Lib.index (s.data.toList.drop (a + 1)) [m.toNat.toUInt8, 93] < 0
            · rw [if_pos q1, if_pos (beq_iff_eq.2 (by omega))]
            · rw [if_neg q1, if_neg (fun h => q1 (by have := beq_iff_eq.1 h; omega))]
        rw [hix]
        by_cases q0 : m.toNat.toUInt8 = s[a]
        · rw [if_pos (e0.2 q0), if_pos (by omega)]
          by_cases q1 : (93 : UInt8) = s[a + 1]
          · rw [if_pos (e1.2 q1), if_pos (show m.toNat.toUInt8 = s[a] ∧ (93 : UInt8) = s[a + 1] from ⟨q0, q1⟩)]
            simp
          · rw [if_neg (fun h => q1 (e1.1 h)), if_neg (show ¬ (m.toNat.toUInt8 = s[a] ∧ (93 : UInt8) = s[a + 1]) from fun h => q1 h.2), hrec]
            exact fin_ _ hge
        · rw [if_neg (fun h => q0 (e0.1 h)), if_neg (show ¬ (m.toNat.toUInt8 = s[a] ∧ (93 : UInt8) = s[a + 1]) from fun h => q0 h.1), hrec]
          exact fin_ _ hge
      · rw [if_neg (by omega), hd, List.drop_eq_nil_of_le (by simp; omega)]
        simp [Lib.index, List.isPrefixOf]
    · rw [show n + 1 + 1 + j = (n + 1 + j) + 1 by omega, runnelref03_closes.l0, wrap_succ (by omega), if_neg (by omega), List.drop_eq_nil_of_le (by simp; omega)]
      rfl
end Go.Proofs.YtcmipoicnonaeaaDoor.F
end
section
namespace Go.Proofs.YtcmipoicnonaeaaDoor.F
open Go.RowKit Go.Proofs.YtcmipoicnonaeaaDoorW.PrintWords
set_option linter.unusedVariables false
set_option linter.unusedSimpArgs false
def classNames : List (List UInt8) := [[97, 108, 112, 104, 97], [100, 105, 103, 105, 116], [97, 108, 110, 117, 109], [117, 112, 112, 101, 114], [108, 111, 119, 101, 114], [115, 112, 97, 99, 101], [98, 108, 97, 110, 107], [103, 114, 97, 112, 104], [112, 114, 105, 110, 116], [112, 117, 110, 99, 116], [99, 110, 116, 114, 108], [120, 100, 105, 103, 105, 116]]
def okB (s : S4) : Bool := decide (0 ≤ s.1 ∧ s.1 < 18446744073709551616) && decide (0 ≤ s.2.1 ∧ s.2.1 < 18446744073709551616) && decide (0 ≤ s.2.2.1 ∧ s.2.2.1 < 18446744073709551616) && decide (0 ≤ s.2.2.2 ∧ s.2.2.2 < 18446744073709551616)
theorem okB_ok {s : S4} (h : okB s = true) : okS s := by
  simp only [okB, Bool.and_eq_true, decide_eq_true_eq] at h
  exact ⟨h.1.1.1, h.1.1.2, h.1.2, h.2⟩
def classOne (n : List UInt8) : Bool := match bset_Class.f ⟨n.toArray⟩, runnelref02_DocClass.f 300 ⟨n.toArray⟩ with
  | some x, some y => x == y && x.2.2.2.2 == 0 && okB (x.1, x.2.1, x.2.2.1, x.2.2.2.1)
  | _, _ => false
theorem class_all : classNames.all classOne = true := by kernel_rfl
theorem mono_up {α : Type} {f : Nat → Option α} (hm : ∀ k, LeO (f k) (f (k + 1))) {k : Nat} {r : α} (h : f k = some r) (j : Nat) : f (k + j) = some r := by
  induction j with
  | zero => exact h
  | succ j ih => exact hm (k + j) r ih
theorem class_eq (n : ByteArray) : ∃ (s : S4) (e : Int), okS s ∧ bset_Class.f n = some (s.1, s.2.1, s.2.2.1, s.2.2.2, e) ∧ ∀ j, runnelref02_DocClass.f (300 + j) n = some (s.1, s.2.1, s.2.2.1, s.2.2.2, e) := by
  have hn : n = ⟨n.toList.toArray⟩ := by rw [Lib.toList_data]
  by_cases hm : n.toList ∈ classNames
  · have h := List.all_eq_true.1 class_all _ hm
    unfold classOne at h
    rw [← hn] at h
    split at h
    · rename_i x y hx hy
      simp only [Bool.and_eq_true, beq_iff_eq] at h
      obtain ⟨⟨hxy, he⟩, ho⟩ := h
      subst hxy
      exact ⟨(x.1, x.2.1, x.2.2.1, x.2.2.2.1), x.2.2.2.2, okB_ok ho, hx, fun j => mono_up (runnelref02_DocClass.mono n) hy j⟩
    · cases h
  · simp only [classNames, List.mem_cons, List.not_mem_nil, or_false, not_or] at hm
    obtain ⟨h1, h2, h3, h4, h5, h6, h7, h8, h9, h10, h11, h12⟩ := hm
    refine ⟨zeroS, 8, zeroS_ok, ?_, fun j => ?_⟩
    · unfold bset_Class.f
      rw [show 256 = 255 + 1 from rfl, classL]
      have : bset_is.f 20 n 0 = some (false, false) := by
        simp [bset_is.f, bset_is.j0, bset_is.j1, h1, h2, h3, h4, h5, h6, h7, h8, h9, h10, h11, h12]
      rw [this]
      rfl
    · unfold runnelref02_DocClass.f
      rw [if_neg h11]
      have ht : runnelref02_text.f n = some ⟨#[]⟩ := by
        simp [runnelref02_text.f, h1, h2, h3, h4, h5, h6, h7, h8, h9, h10, h12]
      rw [ht, Option.bind_some]
      have ho := Of_eq (a := ⟨#[]⟩) (by decide) (299 + j)
      rw [show (⟨#[]⟩ : ByteArray).size + 1 + (299 + j) = 300 + j by show 0 + 1 + (299 + j) = 300 + j; omega] at ho
      rw [ho, Option.bind_some]
      unfold runnelref02_Count.f
      have hz : ofS ⟨#[]⟩ = zeroS := rfl
      have hm := Members_eq zeroS_ok (43 + j)
      rw [show 257 + (43 + j) = 300 + j by omega] at hm
      have hmn : memN zeroS = [] := List.filter_eq_nil_iff.2 (fun c hc => by rw [has_zero]; decide)
      rw [hmn] at hm
      rw [hz, hm]
      rfl
def dashAt (s : ByteArray) (p : Nat) : Bool := decide (p < s.size) && (bt s (p : Int) == 45) && (decide (s.size ≤ p + 1) || (bt s ((p + 1 : Nat) : Int) != 93))
theorem dash_b (s : ByteArray) (hs : s.size < 4294967296) (p : Nat) (e : Int) : bracket_reader_dash.f s (p : Int) e = some (dashAt s p, s, (p : Int), e) := by
  unfold bracket_reader_dash.f dashAt
  by_cases h : p < s.size
  · rw [if_pos (by omega), if_pos (by omega), wrap_succ (by omega)]
    by_cases h1 : bt s (p : Int) = 45
    · rw [if_pos h1]
      by_cases h2 : s.size ≤ p + 1
      · rw [if_pos (by omega)]
        simp [h, h1, h2]
      · rw [if_neg (by omega), if_pos (by omega), if_pos (by omega)]
        simp [h, h1, h2]
    · rw [if_neg h1]
      simp [h1]
  · rw [if_neg (by omega)]
    simp [h]
theorem dash_d (s : ByteArray) (hs : s.size < 4294967296) (p : Nat) : runnelref03_dash.f s (p : Int) = some (dashAt s p) := by
  unfold runnelref03_dash.f dashAt
  by_cases h : p < s.size
  · rw [if_neg (by omega), if_pos (by omega), if_pos (by omega), wrap_succ (by omega)]
    by_cases h1 : bt s (p : Int) = 45
    · rw [if_pos h1]
      by_cases h2 : s.size = p + 1
      · rw [if_pos (by omega)]
        simp [h, h1, h2]
      · rw [if_neg (by omega), if_pos (by omega), if_pos (by omega)]
        have h3 : ¬ s.size ≤ p + 1 := by omega
        simp [h, h1, h3]
    · rw [if_neg h1]
      simp [h1]
  · rw [if_pos (by omega)]
    simp [h]
theorem orSpan_eq : ∀ (n : Nat) (b : Nat) (s : S4), orSpan n (b : Int) s = addL s (List.range' b n)
  | 0, b, s => rfl
  | n + 1, b, s => by
    rw [orSpan, List.range'_succ, show (b : Int) + 1 = ((b + 1 : Nat) : Int) by omega, orSpan_eq n (b + 1)]
    rfl
theorem DocSpan_loop {lo hi : Nat} (hl : lo < 256) (hh : hi < 256) : ∀ (n x : Nat) (t : S4), x + n = 256 → ∀ j, runnelref02_DocSpan.l0 (n + 1 + j) (lo : Int) (hi : Int) (x : Int) t.1 t.2.1 t.2.2.1 t.2.2.2 = some ((addL t ((List.range' x n).filter fun b => decide (lo ≤ b ∧ b ≤ hi))).1, (addL t ((List.range' x n).filter fun b => decide (lo ≤ b ∧ b ≤ hi))).2.1, (addL t ((List.range' x n).filter fun b => decide (lo ≤ b ∧ b ≤ hi))).2.2.1, (addL t ((List.range' x n).filter fun b => decide (lo ≤ b ∧ b ≤ hi))).2.2.2, 0)
  | 0, x, t, h, j => by
    rw [show 0 + 1 + j = j + 1 by omega, runnelref02_DocSpan.l0, if_neg (by omega)]
    rfl
  | n + 1, x, t, h, j => by
    rw [show n + 1 + 1 + j = (n + 1 + j) + 1 by omega, runnelref02_DocSpan.l0, if_pos (by omega), wrap_nat (by omega), wrap_nat (by omega), wrap_succ (by omega), List.range'_succ]
    by_cases h1 : lo ≤ x
    · rw [if_pos (by omega)]
      by_cases h2 : x ≤ hi
      · rw [if_pos (by omega), With_eq t (by omega) (by omega), Option.bind_some, DocSpan_loop hl hh n (x + 1) (addS t x) (by omega) j, List.filter_cons_of_pos (by simp [h1, h2])]
        rfl
      · rw [if_neg (by omega), DocSpan_loop hl hh n (x + 1) t (by omega) j, List.filter_cons_of_neg (by simp; omega)]
    · rw [if_neg (by omega), DocSpan_loop hl hh n (x + 1) t (by omega) j, List.filter_cons_of_neg (by simp; omega)]
theorem DocSpan_eq {lo hi : Nat} (hl : lo < 256) (hh : hi < 256) : ∃ (s : S4) (e : Int), okS s ∧ bset_Span.f (lo : Int) (hi : Int) = some (s.1, s.2.1, s.2.2.1, s.2.2.2, e) ∧ (∀ j, runnelref02_DocSpan.f (257 + j) (lo : Int) (hi : Int) = some (s.1, s.2.1, s.2.2.1, s.2.2.2, e)) ∧ (e = if hi < lo then 7 else 0) := by
  unfold bset_Span.f spanS
  rw [if_pos (by omega)]
  by_cases h : hi < lo
  · refine ⟨zeroS, 7, zeroS_ok, by rw [if_pos (by omega)]; rfl, fun j => ?_, by rw [if_pos h]⟩
    unfold runnelref02_DocSpan.f
    rw [if_pos (by omega)]
    rfl
  · have hr : ∀ b ∈ List.range' lo (hi - lo + 1), b < 256 := fun b hb => by rw [List.mem_range'_1] at hb; omega
    refine ⟨addL zeroS (List.range' lo (hi - lo + 1)), 0, addL_ok hr zeroS_ok, ?_, fun j => ?_, by rw [if_neg h]⟩
    · rw [if_neg (by omega), show (((hi : Int) - (lo : Int) + 1)).toNat = hi - lo + 1 by omega]
      have := orSpan_eq (hi - lo + 1) lo zeroS
      unfold zeroS at this
      rw [this]
      rfl
    · unfold runnelref02_DocSpan.f
      rw [if_neg (by omega)]
      have hf : ∀ b ∈ (List.range' 0 256).filter (fun b => decide (lo ≤ b ∧ b ≤ hi)), b < 256 := filt_lt _
      have he : addL zeroS ((List.range' 0 256).filter fun b => decide (lo ≤ b ∧ b ≤ hi)) = addL zeroS (List.range' lo (hi - lo + 1)) := by
        refine ext4 (addL_ok hf zeroS_ok) (addL_ok hr zeroS_ok) fun c hc => ?_
        rw [has_addL hf hc zeroS_ok, has_addL hr hc zeroS_ok, mem_range0 hc]
        congr 1
        rw [Bool.eq_iff_iff, decide_eq_true_iff, decide_eq_true_iff, List.mem_range'_1]
        omega
      have := DocSpan_loop hl hh 256 0 zeroS rfl j
      rw [show 256 + 1 + j = 257 + j by omega, he] at this
      exact this
end Go.Proofs.YtcmipoicnonaeaaDoor.F
end
section
namespace Go.Proofs.YtcmipoicnonaeaaDoor.F
open Go.RowKit Go.Proofs.YtcmipoicnonaeaaDoorW.PrintWords
set_option linter.unusedVariables false
set_option linter.unusedSimpArgs false
theorem ext_drop (s : ByteArray) (a : Nat) : (s.extract a s.size).data.toList = s.data.toList.drop a := by
  rw [Lib.extract_data, List.take_of_length_le (by simp)]
theorem u8_of {m : Int} (h : 0 ≤ m ∧ m < 256) : ((m.toNat.toUInt8).toNat : Int) = m := by
  simp only [Nat.toUInt8, UInt8.toNat_ofNat']
  omega
theorem nums2 {m : Int} (h : 0 ≤ m ∧ m < 256) : (strOfNums [m, 93]).data.toList = [m.toNat.toUInt8, 93] := by
  have := strOf_bts_list [m.toNat.toUInt8, 93]
  rw [show bts [m.toNat.toUInt8, 93] = [m, 93] by simp only [bts, List.map_cons, List.map_nil, u8_of h]; rfl] at this
  exact this
theorem nums1 {m : Int} (h : 0 ≤ m ∧ m < 256) : (strOfNums [m]).data.toList = [m.toNat.toUInt8] := by
  have := strOf_bts_list [m.toNat.toUInt8]
  rw [show bts [m.toNat.toUInt8] = [m] by simp only [bts, List.map_cons, List.map_nil, u8_of h]] at this
  exact this
theorem bt_ok (s : ByteArray) (p : Int) : 0 ≤ bt s p ∧ bt s p < 256 := by have := bt_range s p; omega
theorem ofS_list {a b : ByteArray} (h : a.data.toList = b.data.toList) : ofS a = ofS b := by unfold ofS; rw [h]
theorem one_list {s : ByteArray} {p : Nat} (h : p < s.size) : (s.extract p (p + 1)).data.toList = (strOfNums [bt s (p : Int)]).data.toList := by
  rw [Lib.extract_data, nums1 (bt_ok s _), drop_cons_ h, show p + 1 - p = 1 by omega, bt_get h]
  simp
theorem mark_all : ((List.range 256).all fun n => decide (Lib.indexByte [46, 61, 58] n.toUInt8 < 0) == !(n == 46 || n == 61 || n == 58)) = true := by kernel_rfl
theorem mark_eq {m : Int} (h : 0 ≤ m ∧ m < 256) : decide (Lib.indexByte [46, 61, 58] m.toNat.toUInt8 < 0) = !(m == 46 || m == 61 || m == 58) := by
  have := beq_iff_eq.1 (List.all_eq_true.1 mark_all m.toNat (List.mem_range.2 (by omega)))
  rw [this]
  obtain ⟨n, rfl⟩ := Int.eq_ofNat_of_zero_le h.1
  have e : ∀ c : Nat, ((n : Int) == (c : Int)) = (n == c) := fun c => by
    rw [Bool.eq_iff_iff, beq_iff_eq, beq_iff_eq]; omega
  show (!(((n : Int)).toNat == 46 || ((n : Int)).toNat == 61 || ((n : Int)).toNat == 58)) = !(((n : Int) == ((46 : Nat) : Int)) || ((n : Int) == ((61 : Nat) : Int)) || ((n : Int) == ((58 : Nat) : Int)))
  rw [e 46, e 61, e 58]
  rfl
theorem item_flag (s : ByteArray) (hs : s.size < 4294967281) {p : Nat} (hp : p < s.size) (k : Nat) : runnelref03_item.f k s (p : Int) = runnelref03_item.j0 k s (p : Int) (bt s (p : Int)) (plainAt s (p : Int)) := by
  unfold runnelref03_item.f plainAt
  rw [if_pos (by omega), if_pos (by omega), wrap_succ (by omega)]
  by_cases h1 : bt s (p : Int) = 91
  · rw [if_pos h1]
    have e1 : (bt s (p : Int) != 91) = false := by rw [h1]; rfl
    rw [e1, Bool.false_or]
    by_cases h2 : s.size ≤ p + 1
    · rw [if_pos (by omega), decide_eq_true (show (s.size : Int) ≤ (p : Int) + 1 by omega), Bool.true_or]
    · rw [if_neg (by omega), if_pos (by omega), if_pos (by omega), decide_eq_false (show ¬ (s.size : Int) ≤ (p : Int) + 1 by omega), Bool.false_or]
      rw [show (p : Int) + 1 = ((p + 1 : Nat) : Int) by omega, mark_eq (bt_ok s _)]
      by_cases h3 : bt s ((p + 1 : Nat) : Int) = 58
      · rw [if_pos h3, h3]; rfl
      · rw [if_neg h3]
        by_cases h4 : bt s ((p + 1 : Nat) : Int) = 61
        · rw [if_pos h4, h4]; rfl
        · rw [if_neg h4]
          have e3 : (bt s ((p + 1 : Nat) : Int) == 58) = false := beq_eq_false_iff_ne.2 h3
          have e4 : (bt s ((p + 1 : Nat) : Int) == 61) = false := beq_eq_false_iff_ne.2 h4
          rw [e3, e4, Bool.or_false, Bool.or_false]
          rfl
  · rw [if_neg h1]
    have e1 : (bt s (p : Int) != 91) = true := bne_iff_ne.2 h1
    rw [e1]
    rfl
theorem plain_mark {s : ByteArray} {p : Nat} (h : plainAt s (p : Int) = false) : p + 1 < s.size := by
  unfold plainAt at h
  simp only [Bool.or_eq_false_iff, decide_eq_false_iff_not] at h
  omega
set_option maxHeartbeats 1000000 in
theorem item_eq (s : ByteArray) (hs : s.size < 4294967281) {p : Nat} (hp : p < s.size) :
    (∃ e : Int, e ≠ 0 ∧ (∃ t1 t2 t3 t4 b q : Int, ∃ g : Bool, bracket_reader_item.f s (p : Int) 0 = some (t1, t2, t3, t4, b, g, s, q, e)) ∧ ∀ j, ∃ t1 t2 t3 t4 b q : Int, ∃ g : Bool, runnelref03_item.f (s.size + 700 + j) s (p : Int) = some (t1, t2, t3, t4, b, g, q, e)) ∨
    (∃ (t : S4) (b : Int) (g : Bool) (q : Nat), okS t ∧ (0 ≤ b ∧ b < 256) ∧ p < q ∧ q ≤ s.size ∧ bracket_reader_item.f s (p : Int) 0 = some (t.1, t.2.1, t.2.2.1, t.2.2.2, b, g, s, (q : Int), 0) ∧ ∀ j, runnelref03_item.f (s.size + 700 + j) s (p : Int) = some (t.1, t.2.1, t.2.2.1, t.2.2.2, b, g, (q : Int), 0)) := by
  have hb0 := bt_ok s (p : Int)
  cases hpl : plainAt s (p : Int) with
  | true =>
    refine .inr ⟨ofS (s.extract p (p + 1)), bt s (p : Int), true, p + 1, ofS_ok _, hb0, by omega, by omega, ?_, fun j => ?_⟩
    · unfold bracket_reader_item.f
      rw [if_pos (by omega), if_pos hpl, bOf_eq (by rw [size_list, nums1 hb0]; simp), Option.bind_some, ofS_list (one_list hp)]
      rfl
    · rw [item_flag s hs hp, hpl, show s.size + 700 + j = (s.size + 699 + j) + 1 by omega, runnelref03_item.j0, if_pos rfl, wrap_succ (by omega), if_pos (by omega), if_pos (by omega), if_pos (by omega)]
      rw [show ((p : Int)).toNat = p by omega, show (((p + 1 : Nat) : Int)).toNat = p + 1 by omega]
      have hsz : (s.extract p (p + 1)).size = 1 := by rw [ByteArray.size_extract]; omega
      have := Of_eq (a := s.extract p (p + 1)) (by omega) (s.size + 697 + j)
      rw [hsz, show 1 + 1 + (s.size + 697 + j) = s.size + 699 + j by omega] at this
      rw [this]
      rfl
  | false =>
    have hp1 := plain_mark hpl
    have hm := bt_ok s ((p + 1 : Nat) : Int)
    have hcl := closes_eq s (by omega) (bt s ((p + 1 : Nat) : Int)) hm
    obtain ⟨ix, hix⟩ : ∃ ix, Lib.index (s.data.toList.drop (p + 3)) [(bt s ((p + 1 : Nat) : Int)).toNat.toUInt8, 93] = ix := ⟨_, rfl⟩
    have hge := Lib.index_ge (s.data.toList.drop (p + 3)) [(bt s ((p + 1 : Nat) : Int)).toNat.toUInt8, 93]
    rw [hix] at hge
    have hnk : namedK s (p : Int) = ix := by
      unfold namedK
      by_cases h2 : p + 2 < s.size
      · rw [if_pos (by omega), show ((p : Int) + 3).toNat = p + 3 by omega, ext_drop, show (p : Int) + 1 = ((p + 1 : Nat) : Int) by omega, nums2 hm]
        exact hix
      · rw [if_neg (by omega), ← hix, List.drop_eq_nil_of_le (by simp; omega)]
        rfl
    have hdoc : ∀ j, runnelref03_closes.f (s.size + 699 + j) s ((p + 3 : Nat) : Int) (bt s ((p + 1 : Nat) : Int)) = some (if ix < 0 then -1 else ((p + 3 : Nat) : Int) + ix) := by
      intro j
      unfold runnelref03_closes.f
      have := hcl s.size (p + 3) (by omega) (by omega) (698 + j)
      rw [show s.size + 1 + (698 + j) = s.size + 699 + j by omega, hix] at this
      exact this
    have hw3 : Aside0 (wrap64 ((p : Int) + 3) = ((p + 3 : Nat) : Int)) := ⟨by rw [wrap_id (by omega) (by omega)]; omega⟩
    have hw2 : Aside0 (wrap64 ((p : Int) + 2) = ((p + 2 : Nat) : Int)) := ⟨by rw [wrap_id (by omega) (by omega)]; omega⟩
    have hnamed : bracket_reader_named.f s (p : Int) 0 = if ix < 0 then some (⟨#[]⟩, bt s ((p + 1 : Nat) : Int), s, (p : Int), 6) else some (s.extract (p + 2) ((p : Int) + 3 + ix).toNat, bt s ((p + 1 : Nat) : Int), s, (p : Int) + 3 + ix + 2, 0) := by
      unfold bracket_reader_named.f
      rw [if_pos (by omega), hnk, show (p : Int) + 1 = ((p + 1 : Nat) : Int) by omega, show ((p : Int) + 2).toNat = p + 2 by omega]
    have hitem : ∀ j, runnelref03_item.f (s.size + 700 + j) s (p : Int) = runnelref03_item.j0 (s.size + 699 + j + 1) s (p : Int) (bt s (p : Int)) false := fun j => by
      rw [item_flag s hs hp, hpl, show s.size + 700 + j = (s.size + 699 + j) + 1 by omega]
    by_cases hneg : ix < 0
    · refine .inl ⟨6, by decide, ⟨0, 0, 0, 0, 0, (p : Int), false, ?_⟩, fun j => ⟨0, 0, 0, 0, 0, 0, false, ?_⟩⟩
      · unfold bracket_reader_item.f
        rw [if_pos (by omega), if_neg (by rw [hpl]; decide), hnamed, if_pos hneg]
        rfl
      · rw [hitem, runnelref03_item.j0, if_neg (by decide), wrap_succ (by omega), if_pos (by omega), if_pos (by omega), hw3.out, hdoc, Option.bind_some, if_pos hneg, if_pos (by decide)]
    · obtain ⟨i, rfl⟩ := Int.eq_ofNat_of_zero_le (show 0 ≤ ix by omega)
      have hfit := index_fits (s.data.toList.drop (p + 3)) [(bt s ((p + 1 : Nat) : Int)).toNat.toUInt8, 93] (by rw [hix]; omega)
      rw [hix, List.length_drop, ← size_list] at hfit
      simp only [List.length_cons, List.length_nil] at hfit
      obtain ⟨en, hen⟩ : ∃ en, en = p + 3 + i := ⟨_, rfl⟩
      have hen2 : en + 2 ≤ s.size := by omega
      have e1 : (p : Int) + 3 + (i : Int) = (en : Int) := by omega
      have e2 : ((p + 3 : Nat) : Int) + (i : Int) = (en : Int) := by omega
      rw [if_neg hneg, e1] at hnamed
      rw [show ((en : Int)).toNat = en by omega, show (en : Int) + 2 = ((en + 2 : Nat) : Int) by omega] at hnamed
      have hwe : Aside0 (wrap64 ((en : Int) + 2) = ((en + 2 : Nat) : Int)) := ⟨by rw [wrap_id (by omega) (by omega)]; omega⟩
      obtain ⟨nm, hnm⟩ : ∃ nm, s.extract (p + 2) en = nm := ⟨_, rfl⟩
      have hnsz : nm.size = i + 1 := by rw [← hnm, ByteArray.size_extract]; omega
      rw [hnm] at hnamed
      obtain ⟨mk, hmk⟩ : ∃ mk, bt s ((p + 1 : Nat) : Int) = mk := ⟨_, rfl⟩
      have hbr : bracket_reader_item.f s (p : Int) 0 = (if mk = 58 then (bset_Class.f nm).bind fun u => some (u.1, u.2.1, u.2.2.1, u.2.2.2.1, 0, false, s, ((en + 2 : Nat) : Int), u.2.2.2.2)
          else if (nm.size : Int) = 1 then (bset_Of.f nm).bind fun u => some (u.1, u.2.1, u.2.2.1, u.2.2.2, bt nm 0, mk == 46, s, ((en + 2 : Nat) : Int), 0)
          else some (0, 0, 0, 0, 0, false, s, ((en + 2 : Nat) : Int), 8)) := by
        unfold bracket_reader_item.f
        rw [if_pos (by omega), if_neg (by rw [hpl]; decide), hnamed, Option.bind_some, hmk]
        rfl
      have hrf : ∀ j, runnelref03_item.f (s.size + 700 + j) s (p : Int) = (if mk = 58 then (runnelref02_DocClass.f (s.size + 699 + j) nm).bind fun u => some (u.1, u.2.1, u.2.2.1, u.2.2.2.1, 0, false, ((en + 2 : Nat) : Int), u.2.2.2.2)
          else if (nm.size : Int) = 1 then (runnelref02_Of.f (s.size + 699 + j) nm).bind fun u => if 0 < (nm.size : Int) then some (u.1, u.2.1, u.2.2.1, u.2.2.2, bt nm 0, mk == 46, ((en + 2 : Nat) : Int), 0) else none
          else some (0, 0, 0, 0, 0, false, 0, 8)) := fun j => by
        rw [hitem, runnelref03_item.j0, if_neg (by decide), wrap_succ (by omega), if_pos (by omega), if_pos (by omega), hw3.out, hdoc, Option.bind_some, if_neg hneg, e2, if_neg (by omega), hw2.out, if_pos (by omega), if_pos (by omega), if_pos (by omega), hmk, hwe.out]
        rw [show (((p + 2 : Nat) : Int)).toNat = p + 2 by omega, show ((en : Int)).toNat = en by omega, hnm]
      by_cases h58 : mk = 58
      · obtain ⟨t, e, hto, hcb, hcd⟩ := class_eq nm
        rw [if_pos h58, hcb, Option.bind_some] at hbr
        have hrf2 : ∀ j, runnelref03_item.f (s.size + 700 + j) s (p : Int) = some (t.1, t.2.1, t.2.2.1, t.2.2.2, 0, false, ((en + 2 : Nat) : Int), e) := fun j => by
          have := hcd (s.size + 399 + j)
          rw [show 300 + (s.size + 399 + j) = s.size + 699 + j by omega] at this
          rw [hrf, if_pos h58, this]
          rfl
        by_cases he : e = 0
        · subst he
          exact .inr ⟨t, 0, false, en + 2, hto, by omega, by omega, hen2, hbr, hrf2⟩
        · exact .inl ⟨e, he, ⟨_, _, _, _, _, _, _, hbr⟩, fun j => ⟨_, _, _, _, _, _, _, hrf2 j⟩⟩
      · rw [if_neg h58] at hbr
        by_cases h1 : (nm.size : Int) = 1
        · rw [if_pos h1, bOf_eq (by omega), Option.bind_some] at hbr
          refine .inr ⟨ofS nm, bt nm 0, mk == 46, en + 2, ofS_ok _, bt_ok nm 0, by omega, hen2, hbr, fun j => ?_⟩
          have := Of_eq (a := nm) (by omega) (s.size + 697 + j)
          rw [show nm.size + 1 + (s.size + 697 + j) = s.size + 699 + j by omega] at this
          rw [hrf, if_neg h58, if_pos h1, this, Option.bind_some, if_pos (by omega)]
        · rw [if_neg h1] at hbr
          refine .inl ⟨8, by decide, ⟨_, _, _, _, _, _, _, hbr⟩, fun j => ⟨0, 0, 0, 0, 0, 0, false, ?_⟩⟩
          rw [hrf, if_neg h58, if_neg h1]
end Go.Proofs.YtcmipoicnonaeaaDoor.F
end
section
namespace Go.Proofs.YtcmipoicnonaeaaDoor.F
open Go.RowKit Go.Proofs.YtcmipoicnonaeaaDoorW.PrintWords Go.Proofs.YtcmipoicnonaeaaDoorW.PrintLast
set_option linter.unusedVariables false
set_option linter.unusedSimpArgs false
theorem dashAt_lt {s : ByteArray} {p : Nat} (h : dashAt s p = true) : p < s.size := by
  unfold dashAt at h
  simp only [Bool.and_eq_true, decide_eq_true_eq] at h
  exact h.1.1
set_option maxHeartbeats 1000000 in
theorem span_eq (s : ByteArray) (hs : s.size < 4294967281) {p : Nat} (hp : p < s.size) :
    (∃ e : Int, e ≠ 0 ∧ (∃ t1 t2 t3 t4 q : Int, bracket_reader_span.f s (p : Int) 0 = some (t1, t2, t3, t4, s, q, e)) ∧ ∀ j, ∃ t1 t2 t3 t4 b q : Int, ∃ g : Bool, runnelref03_ranged.f (s.size + 701 + j) s (p : Int) = some (t1, t2, t3, t4, b, g, q, e)) ∨
    (∃ (t : S4) (q : Nat), okS t ∧ p < q ∧ q ≤ s.size ∧ bracket_reader_span.f s (p : Int) 0 = some (t.1, t.2.1, t.2.2.1, t.2.2.2, s, (q : Int), 0) ∧ ∀ j, ∃ (b : Int) (g : Bool), runnelref03_ranged.f (s.size + 701 + j) s (p : Int) = some (t.1, t.2.1, t.2.2.1, t.2.2.2, b, g, (q : Int), 0)) := by
  rcases item_eq s hs hp with ⟨e, he, ⟨t1, t2, t3, t4, b, q, g, hb⟩, hd⟩ | ⟨t, b, g, q, hto, hbr, hpq, hqs, hb, hd⟩
  · refine .inl ⟨e, he, ⟨t1, t2, t3, t4, q, ?_⟩, fun j => ?_⟩
    · unfold bracket_reader_span.f
      rw [hb, Option.bind_some]
      exact if_pos he
    · obtain ⟨u1, u2, u3, u4, c, r, f, hr⟩ := hd (j + 1)
      refine ⟨u1, u2, u3, u4, c, r, f, ?_⟩
      rw [show s.size + 700 + (j + 1) = s.size + 701 + j by omega] at hr
      unfold runnelref03_ranged.f
      rw [hr, Option.bind_some]
      show (if e = 0 then _ else _) = _
      rw [if_neg he, show s.size + 701 + j = (s.size + 700 + j) + 1 by omega, runnelref03_ranged.j0, if_pos rfl]
  · have hd1 : ∀ j, runnelref03_item.f (s.size + 701 + j) s (p : Int) = some (t.1, t.2.1, t.2.2.1, t.2.2.2, b, g, (q : Int), 0) := fun j => by
      have := hd (j + 1)
      rwa [show s.size + 700 + (j + 1) = s.size + 701 + j by omega] at this
    have hda := dash_b s (by omega) q 0
    have hdd := dash_d s (by omega) q
    cases hdash : dashAt s q with
    | false =>
      rw [hdash] at hda hdd
      refine .inr ⟨t, q, hto, hpq, hqs, ?_, fun j => ⟨b, g, ?_⟩⟩
      · unfold bracket_reader_span.f
        rw [hb, Option.bind_some]
        show (if (0 : Int) ≠ 0 then _ else _) = _
        rw [if_neg (by decide), hda, Option.bind_some]
        rfl
      · unfold runnelref03_ranged.f
        rw [hd1, Option.bind_some]
        show (if (0 : Int) = 0 then _ else _) = _
        rw [if_pos rfl, hdd, Option.bind_some, show s.size + 701 + j = (s.size + 700 + j) + 1 by omega, runnelref03_ranged.j0]
        exact if_pos rfl
    | true =>
      rw [hdash] at hda hdd
      have hql := dashAt_lt hdash
      have hw : Aside0 (wrap64 ((q : Int) + 1) = ((q + 1 : Nat) : Int)) := ⟨wrap_succ (by omega)⟩
      have hsp : bracket_reader_span.f s (p : Int) 0 = (if (s.size : Int) ≤ ((q + 1 : Nat) : Int) then some (t.1, t.2.1, t.2.2.1, t.2.2.2, s, ((q + 1 : Nat) : Int), 6) else
          if g = false then some (t.1, t.2.1, t.2.2.1, t.2.2.2, s, ((q + 1 : Nat) : Int), 7) else
          (bracket_reader_item.f s ((q + 1 : Nat) : Int) 0).bind fun (u1, u2, u3, u4, u5, u6, s11, p11, e11) =>
          if e11 ≠ 0 then some (t.1, t.2.1, t.2.2.1, t.2.2.2, s11, p11, e11) else
          if u6 = false then some (t.1, t.2.1, t.2.2.1, t.2.2.2, s11, p11, 7) else
          (bset_Span.f b u5).bind fun (v1, v2, v3, v4, ev) =>
          if ev ≠ 0 then some (v1, v2, v3, v4, s11, p11, ev) else
          (bracket_reader_dash.f s11 p11 0).bind fun (d2, s12, p12, e12) =>
          if d2 = false then some (v1, v2, v3, v4, s12, p12, e12) else some (v1, v2, v3, v4, s12, p12, 7)) := by
        unfold bracket_reader_span.f
        rw [hb, Option.bind_some]
        show (if (0 : Int) ≠ 0 then _ else _) = _
        rw [if_neg (by decide), hda, Option.bind_some]
        show (if true = false then _ else _) = _
        rw [if_neg (by decide), show IntKind.i64.wrap ((q : Int) + 1) = ((q + 1 : Nat) : Int) from (i64_w _).trans hw.out]
      have hrg : ∀ j, runnelref03_ranged.f (s.size + 701 + j) s (p : Int) = (if ((q + 1 : Nat) : Int) = (s.size : Int) then (some (0, 0, 0, 0, 0, false, 0, 6)) else (if g = true then ((runnelref03_item.f (s.size + 700 + j) s ((q + 1 : Nat) : Int)).bind fun bt225 => (if bt225.2.2.2.2.2.2.2 = 0 then (if bt225.2.2.2.2.2.1 = true then (if bt225.2.2.2.2.1 < b then (some (0, 0, 0, 0, 0, false, 0, 7)) else ((runnelref03_dash.f s bt225.2.2.2.2.2.2.1).bind fun t234 => (if t234 = true then (some (0, 0, 0, 0, 0, false, 0, 7)) else ((runnelref02_DocSpan.f (s.size + 700 + j) b bt225.2.2.2.2.1).bind fun bt235 => (some (bt235.1, bt235.2.1, bt235.2.2.1, bt235.2.2.2.1, 0, false, bt225.2.2.2.2.2.2.1, 0)))))) else (some (0, 0, 0, 0, 0, false, 0, 7))) else (some (bt225.1, bt225.2.1, bt225.2.2.1, bt225.2.2.2.1, bt225.2.2.2.2.1, bt225.2.2.2.2.2.1, bt225.2.2.2.2.2.2.1, bt225.2.2.2.2.2.2.2)))) else (some (0, 0, 0, 0, 0, false, 0, 7)))) := fun j => by
        unfold runnelref03_ranged.f
        rw [hd1, Option.bind_some]
        show (if (0 : Int) = 0 then _ else _) = _
        rw [if_pos rfl, hdd, Option.bind_some, show s.size + 701 + j = (s.size + 700 + j) + 1 by omega, runnelref03_ranged.j0]
        dsimp only
        rw [if_neg (by decide), hw.out]
      by_cases hend : q + 1 = s.size
      · rw [if_pos (by omega)] at hsp
        refine .inl ⟨6, by decide, ⟨_, _, _, _, _, hsp⟩, fun j => ⟨0, 0, 0, 0, 0, 0, false, ?_⟩⟩
        rw [hrg, if_pos (by omega)]
      · rw [if_neg (by omega)] at hsp
        have hrg2 := fun j => (hrg j).trans (if_neg (by omega))
        cases g with
        | false =>
          rw [if_pos rfl] at hsp
          refine .inl ⟨7, by decide, ⟨_, _, _, _, _, hsp⟩, fun j => ⟨0, 0, 0, 0, 0, 0, false, ?_⟩⟩
          rw [hrg2, if_neg (by decide)]
        | true =>
          rw [if_neg (by decide)] at hsp
          rcases item_eq s hs (show q + 1 < s.size by omega) with ⟨e, he, ⟨t1, t2, t3, t4, c, r, f, hb2⟩, hd2⟩ | ⟨u, c, f, r, huo, hcr, hqr, hrs, hb2, hd2⟩
          · rw [hb2, Option.bind_some] at hsp
            refine .inl ⟨e, he, ⟨_, _, _, _, _, hsp.trans (if_pos he)⟩, fun j => ?_⟩
            obtain ⟨u1, u2, u3, u4, c2, r2, f2, hr2⟩ := hd2 j
            refine ⟨u1, u2, u3, u4, c2, r2, f2, ?_⟩
            rw [hrg2, if_pos rfl, hr2, Option.bind_some]
            exact if_neg he
          · rw [hb2, Option.bind_some] at hsp
            have hsp2 := hsp.trans (if_neg (by decide))
            cases f with
            | false =>
              refine .inl ⟨7, by decide, ⟨_, _, _, _, _, hsp2.trans (if_pos rfl)⟩, fun j => ⟨0, 0, 0, 0, 0, 0, false, ?_⟩⟩
              rw [hrg2, if_pos rfl, hd2, Option.bind_some]
              rfl
            | true =>
              have hsp3 := hsp2.trans (if_neg (by decide))
              obtain ⟨lo, rfl⟩ := Int.eq_ofNat_of_zero_le hbr.1
              obtain ⟨hi, rfl⟩ := Int.eq_ofNat_of_zero_le hcr.1
              obtain ⟨v, e, hvo, hvb, hvd, hve⟩ := DocSpan_eq (lo := lo) (hi := hi) (by omega) (by omega)
              rw [hvb, Option.bind_some] at hsp3
              have hrg3 : ∀ j, runnelref03_ranged.f (s.size + 701 + j) s (p : Int) = (if (hi : Int) < (lo : Int) then (some (0, 0, 0, 0, 0, false, 0, 7)) else ((runnelref03_dash.f s (r : Int)).bind fun t234 => (if t234 = true then (some (0, 0, 0, 0, 0, false, 0, 7)) else ((runnelref02_DocSpan.f (s.size + 700 + j) (lo : Int) (hi : Int)).bind fun bt235 => (some (bt235.1, bt235.2.1, bt235.2.2.1, bt235.2.2.2.1, 0, false, (r : Int), 0)))))) := fun j => by
                rw [hrg2, if_pos rfl, hd2, Option.bind_some]
                rfl
              by_cases hlt : hi < lo
              · rw [if_pos hlt] at hve
                subst hve
                refine .inl ⟨7, by decide, ⟨_, _, _, _, _, hsp3.trans (if_pos (by decide))⟩, fun j => ⟨0, 0, 0, 0, 0, 0, false, ?_⟩⟩
                rw [hrg3, if_pos (by omega)]
              · rw [if_neg hlt] at hve
                subst hve
                have hsp4 := hsp3.trans (if_neg (by decide))
                rw [dash_b s (by omega) r 0, Option.bind_some] at hsp4
                have hrg4 := fun j => (hrg3 j).trans (if_neg (by omega))
                cases hdr : dashAt s r with
                | false =>
                  rw [hdr] at hsp4
                  refine .inr ⟨v, r, hvo, by omega, hrs, hsp4, fun j => ⟨0, false, ?_⟩⟩
                  have := hvd (s.size + 443 + j)
                  rw [show 257 + (s.size + 443 + j) = s.size + 700 + j by omega] at this
                  rw [hrg4, dash_d s (by omega) r, hdr, Option.bind_some, if_neg (by decide), this]
                  rfl
                | true =>
                  rw [hdr] at hsp4
                  refine .inl ⟨7, by decide, ⟨_, _, _, _, _, hsp4⟩, fun j => ⟨0, 0, 0, 0, 0, 0, false, ?_⟩⟩
                  rw [hrg4, dash_d s (by omega) r, hdr, Option.bind_some, if_pos rfl]
end Go.Proofs.YtcmipoicnonaeaaDoor.F
end
section
namespace Go.Proofs.YtcmipoicnonaeaaDoor.F
open Go.RowKit Go.Proofs.YtcmipoicnonaeaaDoorW.PrintWords Go.Proofs.YtcmipoicnonaeaaDoorW.PrintLast
set_option linter.unusedVariables false
set_option linter.unusedSimpArgs false
set_option maxHeartbeats 1000000 in
theorem loop_eq (s : ByteArray) (hs : s.size < 4294967281) (nt : Bool) : ∀ (n : Nat) (p x9 : Nat) (t : S4), s.size - p ≤ n → p ≤ 4294967290 → x9 ≤ p → okS t →
    ∃ r : Int × Int × Int × Int × Int × Int, (∀ i, parseL s nt (n + 1 + i) (decide (x9 = 0)) t.1 t.2.1 t.2.2.1 t.2.2.2 s (p : Int) 0 = some r) ∧
      ∀ j, runnelref03_DocParse.l0 (2 * n + s.size + 710 + j) s (p : Int) nt (x9 : Int) t.1 t.2.1 t.2.2.1 t.2.2.2 = some r := by
  intro n
  induction n with
  | zero =>
    intro p x9 t h hp hx ht
    refine ⟨(0, 0, 0, 0, 0, 6), fun i => ?_, fun j => ?_⟩
    · rw [show 0 + 1 + i = i + 1 by omega, parseL, if_neg (by decide), if_pos (by omega)]
    · rw [show 2 * 0 + s.size + 710 + j = (s.size + 709 + j) + 1 by omega, runnelref03_DocParse.l0, if_pos (by omega)]
  | succ n ih =>
    intro p x9 t h hp hx ht
    by_cases hlt : p < s.size
    · have hpl : ∀ i, parseL s nt (n + 1 + 1 + i) (decide (x9 = 0)) t.1 t.2.1 t.2.2.1 t.2.2.2 s (p : Int) 0 = (if bt s (p : Int) = 93 ∧ decide (x9 = 0) = false then
          (if nt then some (Go.bits .xor .u64 (-1) t.1, Go.bits .xor .u64 (-1) t.2.1, Go.bits .xor .u64 (-1) t.2.2.1, Go.bits .xor .u64 (-1) t.2.2.2, IntKind.i64.wrap ((p : Int) + 1), 0)
          else some (t.1, t.2.1, t.2.2.1, t.2.2.2, IntKind.i64.wrap ((p : Int) + 1), 0)) else
          (bracket_reader_span.f s (p : Int) 0).bind fun (u1, u2, u3, u4, rs', p', e') =>
          parseL s nt (n + 1 + i) false (Go.bits .or .u64 t.1 u1) (Go.bits .or .u64 t.2.1 u2) (Go.bits .or .u64 t.2.2.1 u3) (Go.bits .or .u64 t.2.2.2 u4) rs' p' e') := fun i => by
        rw [show n + 1 + 1 + i = (n + 1 + i) + 1 by omega, parseL, if_neg (by decide), if_neg (by omega), if_neg (by omega)]
      have hdl : ∀ j, runnelref03_DocParse.l0 (2 * (n + 1) + s.size + 710 + j) s (p : Int) nt (x9 : Int) t.1 t.2.1 t.2.2.1 t.2.2.2 = runnelref03_DocParse.j4 (2 * n + s.size + 711 + j) s (p : Int) nt (x9 : Int) (if 0 < x9 then bt s (p : Int) == 93 else false) t.1 t.2.1 t.2.2.1 t.2.2.2 := fun j => by
        rw [show 2 * (n + 1) + s.size + 710 + j = (2 * n + s.size + 711 + j) + 1 by omega, runnelref03_DocParse.l0, if_neg (by omega)]
        by_cases h0 : 0 < x9
        · rw [if_pos (by omega), if_pos (by omega), if_pos (by omega), if_pos h0]
        · rw [if_neg (by omega), if_neg h0]
      have hw : Aside0 (wrap64 ((p : Int) + 1) = ((p + 1 : Nat) : Int)) := ⟨wrap_succ (by omega)⟩
      by_cases hend : bt s (p : Int) = 93 ∧ 0 < x9
      · have hf : (if 0 < x9 then bt s (p : Int) == 93 else false) = true := by rw [if_pos hend.2, hend.1]; rfl
        have hc : bt s (p : Int) = 93 ∧ decide (x9 = 0) = false := ⟨hend.1, decide_eq_false (by omega)⟩
        cases nt with
        | true =>
          refine ⟨((notS t).1, (notS t).2.1, (notS t).2.2.1, (notS t).2.2.2, ((p + 1 : Nat) : Int), 0), fun i => ?_, fun j => ?_⟩
          · rw [hpl, if_pos hc, if_pos rfl, (i64_w _).trans hw.out]
            rfl
          · have := Not_eq ht (2 * n + s.size + 453 + j)
            rw [show 257 + (2 * n + s.size + 453 + j) = 2 * n + s.size + 710 + j by omega] at this
            rw [hdl, hf, show 2 * n + s.size + 711 + j = (2 * n + s.size + 710 + j) + 1 by omega, runnelref03_DocParse.j4, if_pos rfl, if_pos rfl, this, Option.bind_some, hw.out]
        | false =>
          refine ⟨(t.1, t.2.1, t.2.2.1, t.2.2.2, ((p + 1 : Nat) : Int), 0), fun i => ?_, fun j => ?_⟩
          · rw [hpl, if_pos hc, if_neg (by decide), (i64_w _).trans hw.out]
          · rw [hdl, hf, show 2 * n + s.size + 711 + j = (2 * n + s.size + 710 + j) + 1 by omega, runnelref03_DocParse.j4, if_pos rfl, if_neg (by decide), hw.out]
      · have hf : (if 0 < x9 then bt s (p : Int) == 93 else false) = false := by
          by_cases h0 : 0 < x9
          · rw [if_pos h0]; exact beq_eq_false_iff_ne.2 (fun q => hend ⟨q, h0⟩)
          · rw [if_neg h0]
        have hc : ¬ (bt s (p : Int) = 93 ∧ decide (x9 = 0) = false) := fun q => hend ⟨q.1, by have := of_decide_eq_false q.2; omega⟩
        have hdl2 : ∀ j, runnelref03_DocParse.l0 (2 * (n + 1) + s.size + 710 + j) s (p : Int) nt (x9 : Int) t.1 t.2.1 t.2.2.1 t.2.2.2 = (runnelref03_ranged.f (2 * n + s.size + 710 + j) s (p : Int)).bind fun bt247 => (if bt247.2.2.2.2.2.2.2 = 0 then ((runnelref02_Or.f (2 * n + s.size + 710 + j) t.1 t.2.1 t.2.2.1 t.2.2.2 bt247.1 bt247.2.1 bt247.2.2.1 bt247.2.2.2.1).bind fun bt256 => (runnelref03_DocParse.l0 (2 * n + s.size + 710 + j) s bt247.2.2.2.2.2.2.1 nt (wrap64 ((x9 : Int) + 1)) bt256.1 bt256.2.1 bt256.2.2.1 bt256.2.2.2)) else (some (0, 0, 0, 0, 0, bt247.2.2.2.2.2.2.2))) := fun j => by
          rw [hdl, hf, show 2 * n + s.size + 711 + j = (2 * n + s.size + 710 + j) + 1 by omega, runnelref03_DocParse.j4, if_neg (by decide)]
        rcases span_eq s hs hlt with ⟨e, he, ⟨t1, t2, t3, t4, q, hb⟩, hd⟩ | ⟨u, q, huo, hpq, hqs, hb, hd⟩
        · refine ⟨(0, 0, 0, 0, 0, e), fun i => ?_, fun j => ?_⟩
          · rw [hpl, if_neg hc, hb, Option.bind_some]
            show parseL s nt (n + 1 + i) _ _ _ _ _ _ _ _ = _
            rw [show n + 1 + i = (n + i) + 1 by omega, parseL, if_pos he]
          · obtain ⟨u1, u2, u3, u4, b, r, g, hr⟩ := hd (2 * n + 9 + j)
            rw [show s.size + 701 + (2 * n + 9 + j) = 2 * n + s.size + 710 + j by omega] at hr
            rw [hdl2, hr, Option.bind_some]
            exact if_neg he
        · obtain ⟨r, hr1, hr2⟩ := ih q (x9 + 1) (orS t u) (by omega) (by omega) (by omega) (orS_ok ht huo)
          refine ⟨r, fun i => ?_, fun j => ?_⟩
          · rw [hpl, if_neg hc, hb, Option.bind_some]
            have := hr1 i
            rw [decide_eq_false (show ¬ x9 + 1 = 0 by omega)] at this
            exact this
          · obtain ⟨b, g, hr⟩ := hd (2 * n + 9 + j)
            rw [show s.size + 701 + (2 * n + 9 + j) = 2 * n + s.size + 710 + j by omega] at hr
            have ho := Or_eq ht huo (2 * n + s.size + 453 + j)
            rw [show 257 + (2 * n + s.size + 453 + j) = 2 * n + s.size + 710 + j by omega] at ho
            rw [hdl2, hr, Option.bind_some]
            show (if (0 : Int) = 0 then _ else _) = _
            rw [if_pos rfl, ho, Option.bind_some, wrap_succ (by omega)]
            exact hr2 j
    · refine ⟨(0, 0, 0, 0, 0, 6), fun i => ?_, fun j => ?_⟩
      · rw [show n + 1 + 1 + i = (n + 1 + i) + 1 by omega, parseL, if_neg (by decide), if_pos (by omega)]
      · rw [show 2 * (n + 1) + s.size + 710 + j = (2 * n + s.size + 711 + j) + 1 by omega, runnelref03_DocParse.l0, if_pos (by omega)]
set_option maxHeartbeats 1000000 in
theorem parse_eq (s : ByteArray) (hs : s.size < 4294967281) (a : Int) : ∃ r : Int × Int × Int × Int × Int × Int, bracket_Parse.f s a = some r ∧ ∀ j, runnelref03_DocParse.f (3 * s.size + 800 + j) s a = some r := by
  by_cases hc : a < 0 ∨ (s.size : Int) ≤ a ∨ bt s a ≠ 91
  · refine ⟨(0, 0, 0, 0, 0, 1), ?_, fun j => ?_⟩
    · unfold bracket_Parse.f
      rw [if_pos hc]
    · unfold runnelref03_DocParse.f
      rw [show 3 * s.size + 800 + j = (3 * s.size + 799 + j) + 1 by omega]
      by_cases h0 : a < 0
      · rw [if_pos h0, runnelref03_DocParse.j0, if_pos rfl]
      · rw [if_neg h0]
        by_cases h1 : (s.size : Int) ≤ a
        · rw [if_pos h1, runnelref03_DocParse.j0, if_pos rfl]
        · have hb : bt s a ≠ 91 := (hc.resolve_left h0).resolve_left h1
          rw [if_neg h1, if_pos (by omega), if_pos (by omega), runnelref03_DocParse.j0, if_pos (bne_iff_ne.2 hb)]
  · have h0 : 0 ≤ a := Int.not_lt.1 (fun q => hc (.inl q))
    have h1 : a < (s.size : Int) := Int.not_le.1 (fun q => hc (.inr (.inl q)))
    have hb : bt s a = 91 := Decidable.byContradiction (fun q => hc (.inr (.inr q)))
    obtain ⟨p, rfl⟩ := Int.eq_ofNat_of_zero_le h0
    have hw : Aside0 (wrap64 ((p : Int) + 1) = ((p + 1 : Nat) : Int)) := ⟨wrap_succ (by omega)⟩
    have hw2 : Aside0 (wrap64 (((p + 1 : Nat) : Int) + 1) = ((p + 2 : Nat) : Int)) := ⟨wrap_succ (by omega)⟩
    have hbp : bracket_Parse.f s (p : Int) = (if ((p + 1 : Nat) : Int) < (s.size : Int) ∧ bt s ((p + 1 : Nat) : Int) = 94 then parseL s true (s.size + 1) true 0 0 0 0 s ((p + 2 : Nat) : Int) 0
        else parseL s false (s.size + 1) true 0 0 0 0 s ((p + 1 : Nat) : Int) 0) := by
      unfold bracket_Parse.f
      rw [if_neg hc, (i64_w _).trans hw.out, (i64_w _).trans hw2.out, if_neg (by omega)]
    have hdp : ∀ j, runnelref03_DocParse.f (3 * s.size + 800 + j) s (p : Int) = (if ((p + 1 : Nat) : Int) < (s.size : Int) then runnelref03_DocParse.j1 (3 * s.size + 799 + j) s ((p + 1 : Nat) : Int) (bt s ((p + 1 : Nat) : Int) == 94) 0 0 0 0 else runnelref03_DocParse.j1 (3 * s.size + 799 + j) s ((p + 1 : Nat) : Int) false 0 0 0 0) := fun j => by
      unfold runnelref03_DocParse.f
      rw [show 3 * s.size + 800 + j = (3 * s.size + 799 + j) + 1 by omega, if_neg (by omega), if_neg (by omega), if_pos (by omega), if_pos (by omega), runnelref03_DocParse.j0, if_neg (by rw [hb]; decide), hw.out]
      by_cases h2 : ((p + 1 : Nat) : Int) < (s.size : Int)
      · rw [if_pos h2, if_pos (by omega), if_pos h2]
      · rw [if_neg h2, if_neg h2]
    have hj : ∀ (nt : Bool) (q : Nat) (j : Nat), runnelref03_DocParse.j2 (3 * s.size + 798 + j) s (q : Int) nt 0 0 0 0 = runnelref03_DocParse.l0 (2 * s.size + s.size + 710 + (87 + j)) s (q : Int) nt 0 0 0 0 0 := fun nt q j => by
      rw [show 3 * s.size + 798 + j = (2 * s.size + s.size + 710 + (87 + j)) + 1 by omega, runnelref03_DocParse.j2]
    by_cases hn : ((p + 1 : Nat) : Int) < (s.size : Int) ∧ bt s ((p + 1 : Nat) : Int) = 94
    · obtain ⟨r, hr1, hr2⟩ := loop_eq s hs true s.size (p + 2) 0 zeroS (by omega) (by omega) (by omega) zeroS_ok
      refine ⟨r, ?_, fun j => ?_⟩
      · rw [hbp, if_pos hn]
        exact hr1 0
      · rw [hdp, if_pos hn.1, hn.2, show 3 * s.size + 799 + j = (3 * s.size + 798 + j) + 1 by omega, runnelref03_DocParse.j1, if_pos (by decide), hw2.out]
        show runnelref03_DocParse.j2 _ s ((p + 2 : Nat) : Int) true 0 0 0 0 = _
        rw [hj]
        exact hr2 (87 + j)
    · obtain ⟨r, hr1, hr2⟩ := loop_eq s hs false s.size (p + 1) 0 zeroS (by omega) (by omega) (by omega) zeroS_ok
      refine ⟨r, ?_, fun j => ?_⟩
      · rw [hbp, if_neg hn]
        exact hr1 0
      · have hfl : (if ((p + 1 : Nat) : Int) < (s.size : Int) then runnelref03_DocParse.j1 (3 * s.size + 799 + j) s ((p + 1 : Nat) : Int) (bt s ((p + 1 : Nat) : Int) == 94) 0 0 0 0 else runnelref03_DocParse.j1 (3 * s.size + 799 + j) s ((p + 1 : Nat) : Int) false 0 0 0 0) = runnelref03_DocParse.j1 (3 * s.size + 799 + j) s ((p + 1 : Nat) : Int) false 0 0 0 0 := by
          by_cases h2 : ((p + 1 : Nat) : Int) < (s.size : Int)
          · rw [if_pos h2, beq_eq_false_iff_ne.2 (fun q => hn ⟨h2, q⟩)]
          · rw [if_neg h2]
        rw [hdp, hfl, show 3 * s.size + 799 + j = (3 * s.size + 798 + j) + 1 by omega, runnelref03_DocParse.j1, if_neg (by decide), hj]
        exact hr2 (87 + j)
theorem aw_true (j : Nat) : runnellaw03_awake.f (300 + j) = some true := by
  have h0 : runnellaw03_awake.f 300 = some true := by kernel_rfl
  exact mono_up (f := runnellaw03_awake.f) runnellaw03_awake.mono h0 j
end Go.Proofs.YtcmipoicnonaeaaDoor.F
namespace Go.Proofs.YtcmipoicnonaeaaDoor.Pure
open Go.RowKit Go.Proofs.YtcmipoicnonaeaaDoor.F Go.Proofs.YtcmipoicnonaeaaDoorW.PrintWords
theorem BracketParses (s : ByteArray) (hs : s.size < 4294967281) (a : Int) : ∃ k, runnellaw03_BracketParses.f k s a = some true := by
  obtain ⟨r, hb, hd⟩ := parse_eq s hs a
  refine ⟨3 * s.size + 800, ?_⟩
  unfold runnellaw03_BracketParses.f
  have ha := aw_true (3 * s.size + 500)
  rw [show 300 + (3 * s.size + 500) = 3 * s.size + 800 by omega] at ha
  rw [hb, Option.bind_some, hd 0, Option.bind_some, ha, Option.bind_some, if_pos rfl, if_pos (by simp), if_pos rfl, beq_self_eq_true]
end Go.Proofs.YtcmipoicnonaeaaDoor.Pure
end
