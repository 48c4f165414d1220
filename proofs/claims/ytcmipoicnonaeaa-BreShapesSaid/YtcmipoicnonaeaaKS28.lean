/- Texts of this claim, 28 of 29: BrePure4, BrePure5, PureBreShapes. -/
import Derived.KernelRfl
import Derived.Test.YtcmipoicnonaeaaKS26
import Derived.Test.YtcmipoicnonaeaaKS27
section
namespace Go.Proofs.Ytcmipoicnonaeaa.F
open Go.RowKit Go.Proofs.YtcmipoicnonaeaaW.PrintWords Go.Proofs.YtcmipoicnonaeaaW.PrintLast Go.Proofs.YtcmipoicnonaeaaW.PrintMore
set_option linter.unusedVariables false
set_option linter.unusedSimpArgs false
theorem bnot_zero : qeb.f 0 0 0 0 = some ((notS qco).1, (notS qco).2.1, (notS qco).2.2.1, (notS qco).2.2.2) := rfl
theorem brk_or (s : ByteArray) (hs : s.size ≤ 100000) (i : Nat) : (∃ (t : S4) (n : Nat), okS t ∧ i < n ∧ n ≤ s.size ∧ qbu.f s (i : Int) = some (t.1, t.2.1, t.2.2.1, t.2.2.2, (n : Int), 0)) ∨ ∃ e : Int, e ≠ 0 ∧ qbu.f s (i : Int) = some (0, 0, 0, 0, 0, e) := by
 rcases BR_or s (by omega) i with ⟨nt, t, m, h⟩ | h
 ·obtain ⟨h1, h2, h3⟩ := BR_parse s (by omega) i h
  have hm : 0 < m := by
   obtain ⟨l', _, h⟩ := h
   rcases h with ⟨_, _, k, hk, rfl⟩ | ⟨_, _, k, _, hk, rfl⟩ <;> omega
  refine .inl ⟨qey nt t, i + m, ?_, by omega, h2, h3⟩
  unfold qey
  by_cases c : nt = true
  ·rw [if_pos c]
   exact notS_ok h1
  ·rw [if_neg c]
   exact h1
 ·exact .inr h
theorem read_j1 (s : ByteArray) (hs : s.size ≤ 100000) {i : Nat} (hi : i < s.size) (c : Int) (f : Bool) (k : Nat) : qb9.j1 (k + 1) s (i : Int) c f = some (expT (if f = true then (tk 1 i 0 0 0, i + 1) else if c = 36 ∧ (i + 1 = s.size ∨ i + 2 < s.size ∧ qd3 s (i + 1) 92 41 = true) then (tk 2 i 0 0 0, i + 1) else (tkB i (oneS c), i + 1))) := by
 have w3 : wrap64 ((i : Int) + 3) = ((i + 1 + 2 : Nat) : Int) := by rw [qbt (by omega) (by omega)]; omega
 rw [qb9.j1, wrap_one (by omega), qgj (by omega), w3, one_eq]
 by_cases hf : f = true
 ·rw [if_pos hf, if_pos hf]
  rfl
 rw [if_neg hf, if_neg hf]
 by_cases c36 : c = 36
 ·rw [if_pos c36]
  by_cases h1 : i + 1 = s.size
  ·have hp : c = 36 ∧ (i + 1 = s.size ∨ i + 2 < s.size ∧ qd3 s (i + 1) 92 41 = true) := ⟨c36, .inl h1⟩
   rw [if_pos hp, if_pos (by omega)]
   rfl
  rw [if_neg (by omega)]
  by_cases h2 : i + 2 < s.size
  ·have e := two_ext (s := s) (i := i + 1) (by omega) 92 41
   rw [show ((92 : UInt8).toNat : Int) = 92 from rfl, show ((41 : UInt8).toNat : Int) = 41 from rfl] at e
   rw [if_pos (by omega), if_pos (by omega), if_pos (by omega), if_pos (by omega), show (((i + 1 : Nat) : Int)).toNat = i + 1 by omega, show (((i + 1 + 2 : Nat) : Int)).toNat = i + 1 + 2 by omega]
   by_cases c2 : qd3 s (i + 1) 92 41 = true
   ·have hp : c = 36 ∧ (i + 1 = s.size ∨ i + 2 < s.size ∧ qd3 s (i + 1) 92 41 = true) := ⟨c36, .inr ⟨h2, c2⟩⟩
    rw [if_pos hp, if_pos (e.2 c2)]
    rfl
   ·have hn : ¬ (c = 36 ∧ (i + 1 = s.size ∨ i + 2 < s.size ∧ qd3 s (i + 1) 92 41 = true)) := fun h => h.2.elim h1 (fun q => c2 q.2)
    rw [if_neg hn, if_neg (fun h => c2 (e.1 h))]
    rfl
  ·have hn : ¬ (c = 36 ∧ (i + 1 = s.size ∨ i + 2 < s.size ∧ qd3 s (i + 1) 92 41 = true)) := fun h => h.2.elim h1 (fun q => h2 q.1)
   rw [if_neg hn, if_neg (by omega)]
   rfl
 ·have hn : ¬ (c = 36 ∧ (i + 1 = s.size ∨ i + 2 < s.size ∧ qd3 s (i + 1) 92 41 = true)) := fun h => c36 h.1
  rw [if_neg c36, if_neg hn]
  rfl
theorem read_j0 (s : ByteArray) (hs : s.size ≤ 100000) {i : Nat} (hi : i < s.size) (c : Int) (f b : Bool) (k : Nat) : qb9.j0 (k + 2) s (i : Int) f c b = some (expT (if b = true then (tk 5 i 0 (-1) 0, i + 1) else if c = 94 ∧ f = true then (tk 1 i 0 0 0, i + 1) else if c = 36 ∧ (i + 1 = s.size ∨ i + 2 < s.size ∧ qd3 s (i + 1) 92 41 = true) then (tk 2 i 0 0 0, i + 1) else (tkB i (oneS c), i + 1))) := by
 rw [qb9.j0]
 by_cases hb : b = true
 ·rw [if_pos hb, if_pos hb, wrap_one (by omega)]
  rfl
 rw [if_neg hb, if_neg hb]
 by_cases c94 : c = 94
 ·rw [if_pos c94, read_j1 s hs hi]
  by_cases hf : f = true
  ·have hp : c = 94 ∧ f = true := ⟨c94, hf⟩
   rw [if_pos hf, if_pos hp]
  ·have hn : ¬ (c = 94 ∧ f = true) := fun h => hf h.2
   rw [if_neg hf, if_neg hn]
 ·have hn : ¬ (c = 94 ∧ f = true) := fun h => c94 h.1
  rw [if_neg c94, read_j1 s hs hi, if_neg hn, if_neg (by decide)]
theorem read_eq (s : ByteArray) (hs : s.size ≤ 100000) {i : Nat} (hi : i < s.size) (f b : Bool) (j : Nat) : qb9.f (s.size + 5 + j) s (i : Int) f b = some (expT (rdT s i f b)) := by
 unfold qb9.f rdT
 rw [if_pos (by omega), if_pos (by omega), esc_eq s hs hi, bnot_zero]
 have hj := fun c b => read_j0 s hs hi c f b (s.size + 3 + j)
 rw [show s.size + 3 + j + 2 = s.size + 5 + j by omega] at hj
 simp only [hj, Option.bind_some]
 have hbr := brk_or s hs i
 generalize bt s (i : Int) = c
 by_cases c92 : c = 92
 ·rw [if_pos c92, if_pos c92]
  try rfl
 rw [if_neg c92, if_neg c92]
 by_cases c91 : c = 91
 ·rw [if_pos c91, if_pos c91]
  rcases hbr with ⟨t, n, -, -, -, h⟩ | ⟨e, he, h⟩
  ·rw [h, Option.bind_some]
   show (if (0 : Int) = 0 then _ else _) = some (expT (if (0 : Int) = 0 then _ else _))
   rw [if_pos rfl, if_pos rfl]
   rfl
  ·rw [h, Option.bind_some]
   show (if e = 0 then _ else _) = some (expT (if e = 0 then _ else _))
   rw [if_neg he, if_neg he]
   rfl
 rw [if_neg c91, if_neg c91]
 by_cases c46 : c = 46
 ·rw [if_pos c46, if_pos c46, wrap_one (by omega)]
  rfl
 rw [if_neg c46, if_neg c46]
 by_cases c42 : c = 42
 ·rw [if_pos c42]
  cases b with
  | true =>
   have hn : ¬ (c = 42 ∧ true = false) := fun h => by cases h.2
   rw [if_neg hn]
   try rfl
  | false =>
   have hp : c = 42 ∧ false = false := ⟨c42, rfl⟩
   rw [if_pos hp]
   try rfl
 ·have hn : ¬ (c = 42 ∧ b = false) := fun h => c42 h.1
  rw [if_neg c42, if_neg hn]
  try rfl
structure RdOk (s : ByteArray) (i : Nat) (b : Bool) (r : Tok × Nat) : Prop where
 a : r.1.a = (i : Int)
 ok : OkT r.1
 rep : r.1.k = 5 → b = false
 next : r.1.k ≠ 7 → i < r.2 ∧ r.2 ≤ s.size
 eol : r.1.k = 2 → r.2 = s.size ∨ qd3 s r.2 92 41 = true
theorem qiq {s : ByteArray} {i n : Nat} {b : Bool} {k lo hi e : Int} (h0 : 0 ≤ k) (h7 : k ≤ 7) (hk2 : k ≠ 2) (hr : k = 5 → b = false ∧ 0 ≤ lo ∧ lo ≤ 255 ∧ (hi = -1 ∨ lo ≤ hi ∧ hi ≤ 255)) (hb : k = 6 → 1 ≤ lo ∧ lo ≤ 9) (hf : k = 7 → e ≠ 0) (hn : k ≠ 7 → i < n ∧ n ≤ s.size) : RdOk s i b (tk k i lo hi e, n) :=
 ⟨rfl, ⟨h0, h7, fun h => (hr h).2, hb, hf⟩, fun h => (hr h).1, hn, fun h => absurd h hk2⟩
theorem qh3 {s : ByteArray} {i n : Nat} {b : Bool} {t : S4} (hn : i < n ∧ n ≤ s.size) : RdOk s i b (tkB i t, n) :=
 ⟨rfl, ⟨Int.le_refl _, (show (0 : Int) ≤ 7 by decide), (fun h => by cases h), (fun h => by cases h), (fun h => by cases h)⟩, (fun h => by cases h), fun _ => hn, (fun h => by cases h)⟩
theorem qg2 {s : ByteArray} {i n : Nat} {b : Bool} {e : Int} (he : e ≠ 0) : RdOk s i b (tk 7 i 0 0 e, n) :=
 qiq (by decide) (by decide) (by decide) (fun h => by cases h) (fun h => by cases h) (fun _ => he) (fun h => absurd rfl h)
theorem qib {s : ByteArray} {i n : Nat} {b : Bool} {k : Int} (h : k = 1 ∨ k = 3 ∨ k = 4) (hn : i < n ∧ n ≤ s.size) : RdOk s i b (tk k i 0 0 0, n) :=
 qiq (by omega) (by omega) (by omega) (fun h => by omega) (fun h => by omega) (fun h => by omega) (fun _ => hn)
theorem esc_ok (s : ByteArray) {i : Nat} (hi : i < s.size) (b : Bool) : RdOk s i b (escA s i b) := by
 unfold escA
 simp only
 generalize bt s ((i + 1 : Nat) : Int) = c
 split
 ·exact qg2 (by decide)
 split
 ·exact qib (by decide) ⟨by omega, by omega⟩
 split
 ·exact qib (by decide) ⟨by omega, by omega⟩
 split
 ·cases h : itvA s (i + 2) with
  | none => exact qg2 (by decide)
  | some r =>
   obtain ⟨lo, h', n⟩ := r
   obtain ⟨q1, q2, q3, q4, q5⟩ := itvA_ok (by omega) h
   simp only
   split
   ·exact qg2 (by decide)
   ·rename_i hb
    exact qiq (by decide) (by decide) (by decide) (fun _ => ⟨by simpa using hb, q1, q2, q3⟩) (fun h => by cases h) (fun h => by cases h) (fun _ => ⟨by omega, q5⟩)
 split
 ·exact qg2 (by decide)
 split
 ·exact qh3 ⟨by omega, by omega⟩
 split
 ·exact qiq (by decide) (by decide) (by decide) (fun h => by cases h) (fun _ => ⟨by omega, by omega⟩) (fun h => by cases h) (fun _ => ⟨by omega, by omega⟩)
 split
 ·exact qg2 (by decide)
 ·exact qh3 ⟨by omega, by omega⟩
theorem rd_ok (s : ByteArray) (hs : s.size ≤ 100000) {i : Nat} (hi : i < s.size) (f b : Bool) : RdOk s i b (rdT s i f b) := by
 unfold rdT
 simp only
 have hbr := brk_or s hs i
 generalize bt s (i : Int) = c
 split
 ·exact esc_ok s hi b
 split
 ·rcases hbr with ⟨t, n, -, h1, h2, h⟩ | ⟨e, he, h⟩
  ·rw [h]
   show RdOk s i b (if (0 : Int) = 0 then (tkB i (t.1, t.2.1, t.2.2.1, t.2.2.2), ((n : Int)).toNat) else _)
   rw [if_pos rfl]
   exact qh3 ⟨by omega, by omega⟩
  ·rw [h]
   show RdOk s i b (if e = 0 then _ else (tk 7 i 0 0 e, i))
   rw [if_neg he]
   exact qg2 he
 split
 ·exact qh3 ⟨by omega, by omega⟩
 split
 ·rename_i h
  exact qiq (by decide) (by decide) (by decide) (fun _ => ⟨h.2, by decide, by decide, .inl rfl⟩) (fun h => by cases h) (fun h => by cases h) (fun _ => ⟨by omega, by omega⟩)
 split
 ·exact qib (by decide) ⟨by omega, by omega⟩
 split
 ·rename_i h
  refine ⟨rfl, ⟨by show (0 : Int) ≤ 2; decide, by show (2 : Int) ≤ 7; decide, (fun h => by cases h), (fun h => by cases h), (fun h => by cases h)⟩, (fun h => by cases h), fun _ => ⟨by show i < i + 1; omega, by show i + 1 ≤ s.size; omega⟩, fun _ => ?_⟩
  rcases h.2 with h | h
  ·exact .inl h
  ·exact .inr h.2
 ·exact qh3 ⟨by omega, by omega⟩
def qdu (s : ByteArray) : Nat → Nat → Bool → Bool → List Tok
 | 0, _, _, _ => []
 | n + 1, i, f, b => if i < s.size then (if (rdT s i f b).1.k = 7 then [(rdT s i f b).1] else (rdT s i f b).1 :: qdu s n (rdT s i f b).2 ((rdT s i f b).1.k == 3) ((rdT s i f b).1.k == 3 || (rdT s i f b).1.k == 1)) else []
theorem toks_eq (s : ByteArray) (hs : s.size ≤ 100000) (j : Nat) : ∀ (n i : Nat) (f b : Bool), s.size < n + i → i ≤ s.size → tokL (s.size + 5 + j) s n (i : Int) f b = some (qdu s n i f b)
 | 0, i, f, b, h, hi => by omega
 | n + 1, i, f, b, h, _ => by
  rw [tokL, qdu]
  by_cases hi : i < s.size
  ·have hr := rd_ok s hs hi f b
   rw [if_pos (by omega), if_pos hi, read_eq s hs hi, Option.bind_some]
   by_cases c7 : (rdT s i f b).1.k = 7
   ·have c7' : (expT (rdT s i f b)).1 = 7 := c7
    rw [if_pos c7', if_pos c7]
    rfl
   ·obtain ⟨h1, h2⟩ := hr.next c7
    have c7' : ¬ (expT (rdT s i f b)).1 = 7 := c7
    have hn : (i : Int) < (expT (rdT s i f b)).2.2.2.2.2.2.2.2.2 := by show (i : Int) < ((rdT s i f b).2 : Int); omega
    rw [if_neg c7', if_neg c7, if_pos hn]
    show (tokL (s.size + 5 + j) s n ((rdT s i f b).2 : Int) _ _).map _ = _
    rw [toks_eq s hs j n (rdT s i f b).2 _ _ (by omega) h2]
    rfl
  ·rw [if_neg (by omega), if_neg hi]
theorem qhz (s : ByteArray) (hs : s.size ≤ 100000) : ∀ (n i : Nat) (f b : Bool), i ≤ s.size → (qdu s n i f b).length + i ≤ s.size + (if i < s.size then 0 else 0)
 | 0, i, f, b, h => by
  rw [qdu]
  simpa using h
 | n + 1, i, f, b, h => by
  rw [qdu]
  by_cases hi : i < s.size
  ·have hr := rd_ok s hs hi f b
   rw [if_pos hi]
   by_cases c7 : (rdT s i f b).1.k = 7
   ·rw [if_pos c7]
    simp only [List.length_cons, List.length_nil]
    omega
   ·obtain ⟨h1, h2⟩ := hr.next c7
    rw [if_neg c7, List.length_cons]
    have := qhz s hs n (rdT s i f b).2 ((rdT s i f b).1.k == 3) ((rdT s i f b).1.k == 3 || (rdT s i f b).1.k == 1) h2
    simp only [ite_self, Nat.add_zero] at this ⊢
    omega
  ·rw [if_neg hi]
   simpa using h
theorem two_tok {s : ByteArray} {i : Nat} (h : qd3 s i 92 41 = true) (f b : Bool) : (rdT s i f b).1.k = 4 := by
 unfold qd3 at h
 simp only [Bool.and_eq_true, decide_eq_true_eq, beq_iff_eq] at h
 obtain ⟨⟨h1, h2⟩, h3⟩ := h
 unfold rdT
 simp only
 rw [if_pos h2]
 unfold escA
 simp only
 rw [if_neg (by omega), h3, if_neg (by decide), if_pos rfl]
 rfl
theorem qiy (s : ByteArray) (hs : s.size ≤ 100000) : ∀ (n i : Nat) (f b b' : Bool), (b' = true → b = false → i = s.size ∨ qd3 s i 92 41 = true) → (b = true → b' = true) → OkL b' (qdu s n i f b)
 | 0, i, f, b, b', _, _ => by
  rw [qdu]
  trivial
 | n + 1, i, f, b, b', h, hbb => by
  rw [qdu]
  by_cases hi : i < s.size
  ·have hr := rd_ok s hs hi f b
   have h5 : (rdT s i f b).1.k = 5 → b' = false := by
    intro c
    have hb := hr.rep c
    cases hb' : b' with
    | false => rfl
    | true =>
     rcases h hb' hb with h | h
     ·omega
     ·rw [two_tok h] at c
      cases c
   rw [if_pos hi]
   by_cases c7 : (rdT s i f b).1.k = 7
   ·rw [if_pos c7]
    exact ⟨hr.ok, h5, trivial⟩
   ·rw [if_neg c7]
    refine ⟨hr.ok, h5, qiy s hs n _ _ _ _ (fun e1 e2 => ?_) (fun e => ?_)⟩
    ·rw [e2, Bool.false_or] at e1
     exact hr.eol (eq_of_beq e1)
    ·rw [e]
     rfl
  ·rw [if_neg hi]
   trivial
def qf5 (s : ByteArray) : List S27 × Int × Int := if s.size ≤ 512 then ansC (runC p0 (qdu s (s.size + 1) 0 true true)) else ([], 2, 0)
theorem parse_C (s : ByteArray) (j : Nat) : qf4 (s.size + 5 + j) s = some (qf5 s) := by
 unfold qf4 qf5
 by_cases hs : s.size ≤ 512
 ·rw [if_pos hs, if_pos hs]
  have h := toks_eq s (by omega) j (s.size + 1) 0 true true (by omega) (by omega)
  have hl := qhz s (by omega) (s.size + 1) 0 true true (by omega)
  have ho := qiy s (by omega) (s.size + 1) 0 true true true (fun _ e => by cases e) (fun e => e)
  rw [show ((0 : Nat) : Int) = 0 from rfl] at h
  rw [h, Option.bind_some]
  exact ans_eq (by simp only [ite_self] at hl; omega) ho
 ·rw [if_neg hs, if_neg hs]
theorem parse_f (s : ByteArray) (j : Nat) : qbw.f (s.size + 5 + j) s = some (0, 0, 0, 0, 0, 0, 0, 0, (qf5 s).1, (qf5 s).2.1, (qf5 s).2.2) := by
 unfold qbw.f
 rw [parse_C s j]
 rfl
end Go.Proofs.Ytcmipoicnonaeaa.F
end
section
namespace Go.Proofs.Ytcmipoicnonaeaa.F
open Go.RowKit Go.Proofs.YtcmipoicnonaeaaW.PrintWords Go.Proofs.YtcmipoicnonaeaaW.PrintLast Go.Proofs.YtcmipoicnonaeaaW.PrintMore
set_option linter.unusedVariables false
set_option linter.unusedSimpArgs false
mutual
def BndT : S27 → Prop
 | ⟨k, _, lo, hi, _, xs⟩ => BndL xs ∧ 0 ≤ posL xs ∧ posL xs ≤ 256 ∧ xs.length ≤ 100000 ∧ (k = 5 → 0 ≤ lo ∧ lo ≤ 255 ∧ (hi = -1 ∨ lo ≤ hi ∧ hi ≤ 255))
def BndL : List S27 → Prop
 | [] => True
 | x :: xs => BndT x ∧ BndL xs
end
theorem qeg : ∀ (a b : List S27), BndL (a ++ b) ↔ BndL a ∧ BndL b
 | [], b => ⟨fun h => ⟨trivial, h⟩, fun h => h.2⟩
 | x :: a, b => by
  rw [List.cons_append, BndL, BndL, qeg a b]
  exact ⟨fun h => ⟨⟨h.1, h.2.1⟩, h.2.2⟩, fun h => ⟨h.1.1, h.1.2, h.2⟩⟩
theorem qhp {t : S27} (h : BndT t) : 0 ≤ posT t ∧ posT t ≤ 65280 := by
 obtain ⟨k, s, lo, hi, g, xs⟩ := t
 obtain ⟨_, h1, h2, _, h3⟩ := h
 rw [posT]
 split
 ·omega
 split
 ·rename_i hk
  have := qi5 (h3 hk)
  exact qhf h1 h2 this.1 this.2
 ·omega
theorem qix : ∀ {xs : List S27}, BndL xs → 0 ≤ posL xs
 | [], _ => by simp [posL]
 | x :: xs, h => by
  have h1 := (qhp h.1).1
  have h2 := qix h.2
  rw [posL]
  omega
theorem posT_eq_times {lo hi n : Int} (h : 0 ≤ lo ∧ lo ≤ 255 ∧ (hi = -1 ∨ lo ≤ hi ∧ hi ≤ 255)) (h0 : 0 ≤ n) (h1 : n ≤ 256) :
  (if hi ≥ 0 then some (wrap64 (n * hi)) else (if lo > 0 then some (wrap64 (n * lo)) else some n)) = some (n * qcw lo hi) := by
 unfold qcw
 by_cases c : hi < 0
 ·rw [if_neg (by omega), if_pos c]
  by_cases d : lo > 0
  ·have := qhf h0 h1 h.1 h.2.1
   rw [if_pos d, qbt (by omega) (by omega), Int.max_eq_left (by omega)]
  ·rw [if_neg d, Int.max_eq_right (by omega), Int.mul_one]
 ·have := qhf h0 h1 (show 0 ≤ hi by omega) (show hi ≤ 255 by omega)
  rw [if_pos (by omega), if_neg c, qbt (by omega) (by omega)]
theorem rd_re {xs : List S27} {i : Nat} (h : i < xs.length) : qag xs (i : Int) = xs[i] := by
 unfold qag
 rw [Int.toNat_natCast, List.getD_eq_getElem?_getD, List.getElem?_eq_getElem h]
 rfl
theorem qi0 : ∀ {xs : List S27}, BndL xs → ∀ x ∈ xs, BndT x
 | [], _, _, h => by cases h
 | y :: ys, hb, x, h => by
  rcases List.mem_cons.1 h with rfl | h
  ·exact hb.1
  ·exact qi0 hb.2 x h
set_option maxHeartbeats 1000000 in
theorem qj4 (xs : List S27) (hx : ∀ x ∈ xs, BndT x ∧ ∃ K, ∀ j, qao.f (K + j) x.f0 x.f1.f0 x.f1.f1 x.f1.f2 x.f1.f3 x.f2 x.f3 x.f4 x.f5 = some (posT x)) (hb : posL xs ≤ 256) (hl : xs.length ≤ 100000)
  (k s0 s1 s2 s3 lo hi g : Int) (h5 : k = 5 → 0 ≤ lo ∧ lo ≤ 255 ∧ (hi = -1 ∨ lo ≤ hi ∧ hi ≤ 255)) : ∀ (n i : Nat) (m : Int), i + n = xs.length → m + posL (xs.drop i) = posL xs → 0 ≤ m → ∃ K, ∀ j, qao.l0 (K + j) m (i : Int) k s0 s1 s2 s3 lo hi g xs = some (posT ⟨k, ⟨s0, s1, s2, s3⟩, lo, hi, g, xs⟩) := by
 intro n
 induction n with
 | zero =>
  intro i m hi2 hm h0
  rw [List.drop_eq_nil_of_le (by omega), posL] at hm
  refine ⟨2, fun j => ?_⟩
  rw [show 2 + j = j + 1 + 1 by omega, qao.l0, if_neg (by omega), posT]
  have hmx : m = posL xs := by omega
  by_cases c1 : k = 1
  ·have hk : k = 1 ∨ k = 6 := .inl c1
   rw [if_pos c1, if_pos hk, qao.j1, c1]
   rfl
  ·rw [if_neg c1, qao.j1]
   by_cases c6 : k = 6
   ·have hk : k = 1 ∨ k = 6 := .inr c6
    rw [if_pos hk, c6]
    rfl
   ·have hk : ¬ (k = 1 ∨ k = 6) := fun h => h.elim c1 c6
    have hk6 : ¬ (k == 6) = true := by simpa using c6
    rw [if_neg hk6, if_neg hk]
    by_cases c5 : k = 5
    ·rw [if_pos c5, if_pos c5, posT_eq_times (h5 c5) h0 (by omega), hmx]
    ·rw [if_neg c5, if_neg c5, hmx]
 | succ n ih =>
  intro i m hi2 hm h0
  have hlt : i < xs.length := by omega
  obtain ⟨hbt, K1, h1⟩ := hx xs[i] (List.getElem_mem hlt)
  have hnn := (qhp hbt).1
  rw [List.drop_eq_getElem_cons hlt, posL] at hm
  have hrest : 0 ≤ posL (xs.drop (i + 1)) := by
   have : ∀ (l : List S27), (∀ x ∈ l, BndT x) → 0 ≤ posL l := by
    intro l
    induction l with
    | nil => intro _; simp [posL]
    | cons y l ihl =>
     intro h
     have a := (qhp (h y List.mem_cons_self)).1
     have b := ihl (fun x hx => h x (List.mem_cons_of_mem _ hx))
     rw [posL]
     omega
   exact this _ (fun x hq => (hx x (List.mem_of_mem_drop hq)).1)
  obtain ⟨K2, h2⟩ := ih (i + 1) (m + posT xs[i]) (by omega) (by omega) (by omega)
  refine ⟨K1 + K2 + 1, fun j => ?_⟩
  rw [show K1 + K2 + 1 + j = K1 + (K2 + j) + 1 by omega, qao.l0, if_pos (by omega), if_pos (by omega), rd_re hlt, h1, Option.bind_some, qbt (x := m + posT xs[i]) (by omega) (by omega), wrap_one (by omega), show K1 + (K2 + j) = K2 + (K1 + j) by omega]
  exact h2 _
theorem Positions_eq : ∀ (m : Nat) (t : S27), SizeOf.sizeOf t < m → BndT t → ∃ K, ∀ j, qao.f (K + j) t.f0 t.f1.f0 t.f1.f1 t.f1.f2 t.f1.f3 t.f2 t.f3 t.f4 t.f5 = some (posT t) := by
 intro m
 induction m with
 | zero => intro t h; omega
 | succ m ih =>
  rintro ⟨k, ⟨s0, s1, s2, s3⟩, lo, hi, g, xs⟩ hm ⟨hL, h0, h1, hl, h5⟩
  obtain ⟨K, hK⟩ := qj4 xs (fun x hx => ⟨qi0 hL x hx, ih x (by
   have := List.sizeOf_lt_of_mem hx
   simp only [S27.mk.sizeOf_spec] at hm
   omega) (qi0 hL x hx)⟩) h1 hl k s0 s1 s2 s3 lo hi g h5 xs.length 0 0 (by omega) (by rw [List.drop_zero, Int.zero_add]) (Int.le_refl _)
  refine ⟨K + 1, fun j => ?_⟩
  rw [show K + 1 + j = K + j + 1 by omega, qao.f]
  exact hK j
structure OkB (p : PS) (N : Int) : Prop where
 bnd : ∀ f ∈ p.fs, BndL f.f0
 at_ : ∀ f ∈ p.fs, 0 ≤ f.f3 ∧ f.f3 ≤ N
theorem qhm {p : PS} {N : Int} (h : OkB p N) {x : S27} {m : Int} (hx : BndT x) : OkB (putC p x m) N := by
 unfold putC
 cases hf : p.fs with
 | nil => exact h
 | cons f fs =>
  have h1 := h.bnd
  have h2 := h.at_
  rw [hf] at h1 h2
  refine ⟨fun y hy => ?_, fun y hy => ?_⟩
  ·rcases List.mem_cons.1 hy with rfl | hy
   ·exact (qeg _ _).2 ⟨h1 f List.mem_cons_self, hx, trivial⟩
   ·exact h1 y (List.mem_cons_of_mem _ hy)
  ·rcases List.mem_cons.1 hy with rfl | hy
   ·exact h2 f List.mem_cons_self
   ·exact h2 y (List.mem_cons_of_mem _ hy)
theorem qgi {k : Int} {s : S24} {g : Int} (h : k ≠ 5) : BndT (leaf k s g) := ⟨trivial, by simp [posL], by simp [posL], by simp, fun e => absurd e h⟩
theorem BndL_last {xs : List S27} (h : BndL xs) (hne : xs ≠ []) : BndL xs.dropLast ∧ BndT (xs.getLastD z27) := by
 rw [← qfc (d := z27) hne, qeg] at h
 exact ⟨h.1, h.2.1⟩
theorem take_bnd {p : PS} {n : Nat} {ne b : Bool} {N : Int} {t : Tok} (hp : OkP p n ne) (hn : n ≤ 512) (hs : OkS p b) (h : OkB p N) (ht : OkT t) (ha : 0 ≤ t.a ∧ t.a ≤ N) (h5 : t.k = 5 → b = false) : OkB (takeC p t).2 N := by
 obtain ⟨f, fs, hf, hF, hFs, hs1, hs2, hs3⟩ := hp.cons
 have hz := hp.le
 have h1 := h.bnd
 have h2 := h.at_
 have hpos := hs.pos
 unfold takeC
 by_cases c0 : t.k = 0
 ·rw [if_pos c0]
  exact qhm h (qgi (by decide))
 rw [if_neg c0]
 by_cases c1 : t.k = 1
 ·rw [if_pos c1]
  exact qhm h (qgi (by decide))
 rw [if_neg c1]
 by_cases c2 : t.k = 2
 ·rw [if_pos c2]
  exact qhm h (qgi (by decide))
 rw [if_neg c2]
 by_cases c3 : t.k = 3
 ·rw [if_pos c3]
  by_cases c9 : p.gr = 9
  ·rw [if_pos c9]
   exact h
  ·rw [if_neg c9]
   refine ⟨fun y hy => ?_, fun y hy => ?_⟩
   ·rcases List.mem_cons.1 hy with rfl | hy
    ·exact trivial
    ·exact h1 y hy
   ·rcases List.mem_cons.1 hy with rfl | hy
    ·exact ha
    ·exact h2 y hy
 rw [if_neg c3]
 by_cases c4 : t.k = 4
 ·rw [if_pos c4]
  rw [hf] at h1 h2 hpos ⊢
  cases fs with
  | nil => exact h
  | cons f2 fs =>
   have hb := h1 f List.mem_cons_self
   have hb2 := h1 f2 (List.mem_cons_of_mem _ List.mem_cons_self)
   have hsum : posL f.f0 = sumI f.f1 := by rw [hpos f List.mem_cons_self, qfw]
   have hle := hF.le
   have hbg : BndT (grp f.f2 f.f0) := by
    refine ⟨⟨⟨hb, ?_, ?_, by omega, fun e => by cases e⟩, trivial⟩, ?_, ?_, by simp, fun e => by cases e⟩
    ·rw [hsum]; exact hs1
    ·rw [hsum]; rw [szF] at hs2 hs3; omega
    ·simp only [posL, posT]
     simp
     rw [hsum]; exact hs1
    ·simp only [posL, posT]
     simp
     rw [hsum]; omega
   refine ⟨fun y hy => ?_, fun y hy => ?_⟩
   ·rcases List.mem_cons.1 hy with rfl | hy
    ·exact (qeg _ _).2 ⟨hb2, hbg, trivial⟩
    ·exact h1 y (List.mem_cons_of_mem _ (List.mem_cons_of_mem _ hy))
   ·rcases List.mem_cons.1 hy with rfl | hy
    ·exact h2 f2 (List.mem_cons_of_mem _ List.mem_cons_self)
    ·exact h2 y (List.mem_cons_of_mem _ (List.mem_cons_of_mem _ hy))
 rw [if_neg c4]
 by_cases c5 : t.k = 5
 ·rw [if_pos c5]
  obtain ⟨hne, hr⟩ := hs.last (h5 c5) f fs hf
  rw [hf] at h1 h2 hpos ⊢
  have hb := h1 f List.mem_cons_self
  obtain ⟨hb1, hb2⟩ := BndL_last hb hne
  have hnn := qhp hb2
  have hle : posT (f.f0.getLastD z27) ≤ 256 := by
   have hd := qfc (d := z27) hne
   have hsum : posL f.f0 = sumI f.f1 := by rw [hpos f List.mem_cons_self, qfw]
   rw [← hd, qhs] at hsum
   have := qix hb1
   simp only [posL] at hsum
   omega
  have hbr : BndT (newR t.lo t.hi (f.f0.getLastD z27)) := ⟨⟨hb2, trivial⟩, by simp only [posL]; omega, by simp only [posL]; omega, by simp, fun _ => ht.rep c5⟩
  refine ⟨fun y hy => ?_, fun y hy => ?_⟩
  ·rcases List.mem_cons.1 hy with rfl | hy
   ·exact (qeg _ _).2 ⟨hb1, hbr, trivial⟩
   ·exact h1 y (List.mem_cons_of_mem _ hy)
  ·rcases List.mem_cons.1 hy with rfl | hy
   ·exact h2 f List.mem_cons_self
   ·exact h2 y (List.mem_cons_of_mem _ hy)
 rw [if_neg c5]
 by_cases c6 : t.k = 6
 ·rw [if_pos c6]
  by_cases c : p.sh.getD t.lo.toNat false = false
  ·rw [if_pos c]
   exact h
  ·rw [if_neg c]
   exact qhm h (qgi (by decide))
 rw [if_neg c6]
 exact h
theorem run_bnd {N : Int} : ∀ (L : List Tok) {p : PS} {n : Nat} {ne b : Bool}, OkP p n ne → n + L.length ≤ 513 → OkS p b → OkB p N → OkL b L → (∀ t ∈ L, 0 ≤ t.a ∧ t.a ≤ N) → (b = false → ne = true) →
  match runC p L with
  | .inl (e, a) => e ≠ 0 ∧ 0 ≤ a ∧ a ≤ N
  | .inr q => (∃ ne', OkP q (n + L.length) ne') ∧ (∃ b', OkS q b') ∧ OkB q N
 | [], p, n, ne, b, hp, _, hs, hb, _, _, _ => ⟨⟨ne, hp⟩, ⟨b, hs⟩, hb⟩
 | t :: ts, p, n, ne, b, hp, hn, hs, hb, ⟨ht, h5b, hts⟩, ha, hbn => by
  rw [List.length_cons] at hn
  have h5 : t.k = 5 → ne = true := fun c => hbn (h5b c)
  have hta := ha t List.mem_cons_self
  rw [runC]
  by_cases c : (takeC p t).1 = 0
  ·rw [if_pos c]
   have := run_bnd ts (qh4 hp ht h5 c) (by omega) (take_shp hp hs ht h5b c) (take_bnd hp (by omega) hs hb ht hta h5b) hts (fun x hx => ha x (List.mem_cons_of_mem _ hx)) (fun e => by
    rw [Bool.or_eq_false_iff, Bool.or_eq_false_iff] at e
    rw [bne, e.1.1]
    rfl)
   rw [List.length_cons, show n + (ts.length + 1) = n + 1 + ts.length by omega]
   exact this
  ·rw [if_neg c]
   exact ⟨c, hta⟩
theorem toks_at (s : ByteArray) (hs : s.size ≤ 100000) : ∀ (n i : Nat) (f b : Bool), ∀ t ∈ qdu s n i f b, 0 ≤ t.a ∧ t.a ≤ (s.size : Int)
 | 0, i, f, b, t, h => by
  rw [qdu] at h
  cases h
 | n + 1, i, f, b, t, h => by
  rw [qdu] at h
  by_cases hi : i < s.size
  ·have hr := (rd_ok s hs hi f b).a
   rw [if_pos hi] at h
   by_cases c7 : (rdT s i f b).1.k = 7
   ·rw [if_pos c7] at h
    rw [List.mem_singleton.1 h, hr]
    omega
   ·rw [if_neg c7] at h
    rcases List.mem_cons.1 h with rfl | h
    ·rw [hr]
     omega
    ·exact toks_at s hs n _ _ _ t h
  ·rw [if_neg hi] at h
   cases h
theorem p0_bnd (N : Int) (h : 0 ≤ N) : OkB p0 N := by
 refine ⟨fun f hf => ?_, fun f hf => ?_⟩
 ·rw [List.mem_singleton.1 hf]
  exact trivial
 ·rw [List.mem_singleton.1 hf]
  exact ⟨Int.le_refl _, h⟩
theorem parse_told (s : ByteArray) : (∃ (xs : List S27) (n' : Int) (c' : List Bool), qf5 s = (xs, 0, 0) ∧ ShpL xs 0 (List.replicate 10 false) n' c' ∧ BndL xs ∧ posL xs ≤ 256 ∧ xs.length ≤ 513) ∨ ∃ e a : Int, qf5 s = ([], e, a) ∧ e ≠ 0 ∧ 0 ≤ a ∧ a ≤ (s.size : Int) := by
 unfold qf5
 by_cases hs : s.size ≤ 512
 ·rw [if_pos hs]
  have hl := qhz s (by omega) (s.size + 1) 0 true true (by omega)
  simp only [ite_self] at hl
  have h := run_bnd (N := (s.size : Int)) (qdu s (s.size + 1) 0 true true) p0_ok (by omega) p0_shp (p0_bnd _ (by omega)) (qiy s (by omega) (s.size + 1) 0 true true true (fun _ e => by cases e) (fun e => e)) (toks_at s (by omega) _ _ _ _) (fun e => by cases e)
  cases hr : runC p0 (qdu s (s.size + 1) 0 true true) with
  | inl q =>
   rw [hr] at h
   obtain ⟨e, a⟩ := q
   exact .inr ⟨e, a, rfl, h.1, h.2⟩
  | inr q =>
   rw [hr] at h
   obtain ⟨⟨ne', h1⟩, ⟨b', h2⟩, h3⟩ := h
   unfold ansC
   simp only
   match hq : q.fs with
   | [] => exact absurd hq h1.nil
   | [f] =>
    have hsh := h2.shp
    have hz := h1.sz
    have hle := h1.le
    have hpos := h2.pos f (by rw [hq]; exact List.mem_cons_self)
    rw [hq] at hsh hz
    refine .inl ⟨f.f0, q.gr, q.sh, rfl, hsh, h3.bnd f (by rw [hq]; exact List.mem_cons_self), ?_, ?_⟩
    ·rw [← qfw, ← hpos]
     simp only [szF] at hz
     omega
    ·have := (h1.fs f (by rw [hq]; exact List.mem_cons_self)).le
     omega
   | f :: f2 :: fs => exact .inr ⟨10, f.f3, rfl, by decide, h3.at_ f (by rw [hq]; exact List.mem_cons_self)⟩
 ·rw [if_neg hs]
  exact .inr ⟨2, 0, rfl, by decide, Int.le_refl _, by omega⟩
end Go.Proofs.Ytcmipoicnonaeaa.F
end
section
namespace Go.Proofs.Ytcmipoicnonaeaa.Pure
open Go.RowKit Go.Proofs.Ytcmipoicnonaeaa.F Go.Proofs.YtcmipoicnonaeaaW.PrintWords Go.Proofs.YtcmipoicnonaeaaW.PrintLast Go.Proofs.YtcmipoicnonaeaaW.PrintMore
set_option linter.unusedVariables false
set_option linter.unusedSimpArgs false
theorem awake_up (j : Nat) : qbn.f (100 + j) = some true := by
  have h0 : qbn.f 100 = some true := by kernel_rfl
  exact qj1 (f := qbn.f) qbn.mono h0 j
theorem same_nil (j : Nat) : qad.f (5 + j) 0 0 0 0 0 0 0 0 [] 0 0 0 0 0 0 0 0 [] = some true := by
  have h0 : qad.f 5 0 0 0 0 0 0 0 0 [] 0 0 0 0 0 0 0 0 [] = some true := by kernel_rfl
  exact qj1 (f := fun k => qad.f k 0 0 0 0 0 0 0 0 [] 0 0 0 0 0 0 0 0 []) (fun k => qad.mono _ _ _ _ _ _ _ _ _ _ _ _ _ _ _ _ _ _ k) h0 j
theorem BreShapes : qbo.Pure := by
  intro a0 _
  rcases parse_told a0 with ⟨xs, n', c', hp, hs, hb, hle, hlen⟩ | ⟨e, a, hp, he, h0, h1⟩
  · have hbt : BndT ⟨0, ⟨0, 0, 0, 0⟩, 0, 0, 0, xs⟩ := ⟨hb, qix hb, hle, by omega, fun e => by cases e⟩
    obtain ⟨K, hK⟩ := Positions_eq _ _ (Nat.lt_succ_self _) hbt
    obtain ⟨q, hq1, hq2⟩ := shaped_some (100 + (a0.size + 5 + K)) xs hs
    refine ⟨100 + (a0.size + 5 + K), ?_⟩
    unfold qbo.f
    have hpf := parse_f a0 (100 + K)
    rw [hp] at hpf
    rw [awake_up, Option.bind_some, if_pos rfl, show 100 + (a0.size + 5 + K) = a0.size + 5 + (100 + K) by omega, hpf, Option.bind_some]
    simp only
    rw [show 100 + (a0.size + 5 + K) = a0.size + 5 + (100 + K) by omega] at hq1
    have hpos := hK (a0.size + 5 + 100)
    rw [show K + (a0.size + 5 + 100) = a0.size + 5 + (100 + K) by omega] at hpos
    rw [if_pos trivial, hq1, Option.bind_some, if_pos hq2, if_pos trivial, if_pos trivial, hpos, Option.bind_some]
    have : posT ⟨0, ⟨0, 0, 0, 0⟩, 0, 0, 0, xs⟩ ≤ 256 := by
      simp only [posT]
      simpa using hle
    rw [decide_eq_true this]
  · refine ⟨100 + (a0.size + 5), ?_⟩
    unfold qbo.f
    have hpf := parse_f a0 100
    rw [hp] at hpf
    have hs := same_nil (a0.size + 100)
    rw [show 5 + (a0.size + 100) = a0.size + 5 + 100 by omega] at hs
    rw [awake_up, Option.bind_some, if_pos rfl, show 100 + (a0.size + 5) = a0.size + 5 + 100 by omega, hpf, Option.bind_some]
    simp only
    rw [if_neg he, if_pos h0, if_pos h1, hs]
    rfl
end Go.Proofs.Ytcmipoicnonaeaa.Pure
end
