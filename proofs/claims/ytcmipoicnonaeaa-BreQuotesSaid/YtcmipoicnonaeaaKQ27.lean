/- Texts of this claim, 27 of 28: PureBreQuotes. -/
import Derived.KernelRfl
import Derived.Test.YtcmipoicnonaeaaKQ24
import Derived.Test.YtcmipoicnonaeaaKQ26
section
namespace Go.Proofs.Ytcmipoicnonaeaa.Pure
open Go.RowKit Go.Proofs.Ytcmipoicnonaeaa.F Go.Proofs.YtcmipoicnonaeaaW.PrintWords Go.Proofs.YtcmipoicnonaeaaW.PrintLast Go.Proofs.YtcmipoicnonaeaaW.PrintMore
set_option linter.unusedVariables false
set_option linter.unusedSimpArgs false
theorem plain_not {c : Int} (h : ¬ qe7 c = true) : ¬ ((48 ≤ c ∧ c ≤ 57) ∨ (97 ≤ c ∧ c ≤ 122) ∨ (65 ≤ c ∧ c ≤ 90) ∨ c = 40 ∨ c = 41 ∨ c = 123 ∨ c = 125) := fun q => h ((qfj c).2 q)
theorem quoted_eq (s : ByteArray) (hs : s.size ≤ 1000) (j : Nat) : ∃ q, qd2.f j s = some q ∧ q.data.toList = qd5 s.data.toList :=
 ⟨_, if_pos hs, qee (qd5 s.data.toList)⟩
def toSet (t : S4) : S24 := ⟨t.1, t.2.1, t.2.2.1, t.2.2.2⟩
def qdu (b : UInt8) : S27 := leaf 1 (toSet (ofL [b])) 0
theorem qio (b : UInt8) : oneS (b.toNat : Int) = ofL [b] := by
 unfold oneS
 rw [qha, show [((b.toNat : Nat) : Int)] = bts [b] from rfl, qee]
theorem rd_plain {s : ByteArray} {i : Nat} {b : UInt8} (hb : bt s (i : Int) = (b.toNat : Int)) (hp : qe7 (b.toNat : Int) = true) (f g : Bool) : rdT s i f g = (tkB i (ofL [b]), i + 1) := by
 have hq := (qfj _).1 hp
 unfold rdT
 simp only
 rw [hb]
 have n1 : ¬ (b.toNat : Int) = 92 := by omega
 have n2 : ¬ (b.toNat : Int) = 91 := by omega
 have n3 : ¬ (b.toNat : Int) = 46 := by omega
 have n4 : ¬ ((b.toNat : Int) = 42 ∧ g = false) := by omega
 have n5 : ¬ ((b.toNat : Int) = 94 ∧ f = true) := by omega
 have n6 : ¬ ((b.toNat : Int) = 36 ∧ (i + 1 = s.size ∨ i + 2 < s.size ∧ qd4 s (i + 1) 92 41 = true)) := by omega
 rw [if_neg n1, if_neg n2, if_neg n3, if_neg n4, if_neg n5, if_neg n6, qio]
theorem rd_quote {s : ByteArray} {i : Nat} {b : UInt8} (h0 : bt s (i : Int) = 92) (hi : i + 1 < s.size) (hb : bt s ((i + 1 : Nat) : Int) = (b.toNat : Int)) (hp : ¬ qe7 (b.toNat : Int) = true) (f g : Bool) : rdT s i f g = (tkB i (ofL [b]), i + 2) := by
 have hq := plain_not hp
 have ha : ¬ qfr (b.toNat : Int) = true := fun h => hp (by unfold qe7; rw [show alnumQ (b.toNat : Int) = true from h]; rfl)
 unfold rdT
 simp only
 rw [if_pos h0]
 unfold escA
 simp only
 rw [hb]
 have n0 : ¬ i + 1 = s.size := by omega
 have n1 : ¬ (b.toNat : Int) = 40 := by omega
 have n2 : ¬ (b.toNat : Int) = 41 := by omega
 have n3 : ¬ (b.toNat : Int) = 123 := by omega
 have n4 : ¬ (b.toNat : Int) = 125 := by omega
 have n5 : ¬ (b.toNat : Int) = 110 := by omega
 have n6 : ¬ (49 ≤ (b.toNat : Int) ∧ (b.toNat : Int) ≤ 57) := by omega
 rw [if_neg n0, if_neg n1, if_neg n2, if_neg n3, if_neg n4, if_neg n5, if_neg n6, if_neg ha, qio]
theorem take_tkB {p : PS} {f : S59} {fs : List S59} (hf : p.fs = f :: fs) (i : Nat) (b : UInt8) (hz : p.sz + 1 ≤ 256) : takeC p (tkB i (ofL [b])) = (0, { p with fs := { f with f0 := f.f0 ++ [qdu b], f1 := f.f1 ++ [1] } :: fs, sz := p.sz + 1 }) := by
 unfold takeC
 have h0 : (tkB i (ofL [b])).k = 0 := rfl
 have h1 : ¬ 256 < p.sz + 1 := by omega
 rw [if_pos h0]
 unfold putC qes
 rw [hf, if_neg h1]
 rfl
theorem qiy (s : ByteArray) : ∀ (l : List UInt8) (i n : Nat) (fl g : Bool) (p : PS) (f : S59) (fs : List S59), s.data.toList.drop i = qd5 l → i ≤ s.size → l.length < n → p.fs = f :: fs → p.sz + l.length ≤ 256 →
  ∃ q, runC p (qed s n i fl g) = .inr q ∧ ∃ f', q.fs = f' :: fs ∧ f'.f0 = f.f0 ++ l.map qdu
 | [], i, n + 1, fl, g, p, f, fs, hd, hi, hn, hf, hz => by
  have := at_nil hd hi
  rw [qed, if_neg (by omega)]
  exact ⟨p, rfl, f, hf, by simp⟩
 | b :: l, i, n + 1, fl, g, p, f, fs, hd, hi, hn, hf, hz => by
  rw [List.length_cons] at hn hz
  rw [qd5] at hd
  have hrd : ∃ i', rdT s i fl g = (tkB i (ofL [b]), i') ∧ i < s.size ∧ i' ≤ s.size ∧ s.data.toList.drop i' = qd5 l := by
   by_cases hp : qe7 (b.toNat : Int) = true
   ·rw [if_pos hp] at hd
    obtain ⟨h1, h2, h3⟩ := qfz hd
    exact ⟨i + 1, rd_plain h2 hp fl g, h1, h1, h3⟩
   ·rw [if_neg hp] at hd
    obtain ⟨h1, h2, h3⟩ := qfz hd
    obtain ⟨h4, h5, h6⟩ := qfz h3
    exact ⟨i + 2, rd_quote h2 h4 h5 hp fl g, h1, h4, h6⟩
  obtain ⟨i', hr, h1, h2, h3⟩ := hrd
  rw [qed, if_pos h1, hr, if_neg (by show ¬ (0 : Int) = 7; decide), runC, take_tkB hf i b (by omega), if_pos rfl]
  obtain ⟨q, hq1, f', hq2, hq3⟩ := qiy s l i' n (((0 : Int)) == 3) ((0 : Int) == 3 || (0 : Int) == 1) { p with fs := { f with f0 := f.f0 ++ [qdu b], f1 := f.f1 ++ [1] } :: fs, sz := p.sz + 1 } { f with f0 := f.f0 ++ [qdu b], f1 := f.f1 ++ [1] } fs h3 h2 (by omega) rfl (by show p.sz + 1 + l.length ≤ 256; omega)
  refine ⟨q, hq1, f', hq2, ?_⟩
  rw [hq3]
  simp
theorem parse_quote (q : ByteArray) (l : List UInt8) (hl : l.length ≤ 256) (hq : q.data.toList = qd5 l) : qfb q = (l.map qdu, 0, 0) := by
 have hs := qgp l
 rw [← hq, ← qbj] at hs
 unfold qfb
 rw [if_pos (by omega)]
 obtain ⟨r, h1, f', h2, h3⟩ := qiy q l 0 (q.size + 1) true true p0 ⟨[], [], 0, 0⟩ [] (by rw [List.drop_zero]; exact hq) (Nat.zero_le _) (by
  have : ∀ l : List UInt8, l.length ≤ (qd5 l).length := by
   intro l
   induction l with
   | nil => exact Nat.le_refl _
   | cons b l ih =>
    rw [qd5, List.length_append, List.length_cons]
    split
    ·simp only [List.length_cons, List.length_nil]
     omega
    ·simp only [List.length_cons, List.length_nil]
     omega
  have := this l
  rw [← hq, ← qbj] at this
  omega) rfl (by show (0 : Int) + l.length ≤ 256; omega)
 rw [h1]
 unfold ansC
 simp only
 rw [h2]
 show (f'.f0, (0 : Int), (0 : Int)) = _
 rw [h3]
 rfl
theorem awake_up (j : Nat) : qbr.f (100 + j) = some true := by
 have h0 : qbr.f 100 = some true := by kernel_rfl
 exact mono_up (f := qbr.f) qbr.mono h0 j
theorem qhe (s : ByteArray) (hs : s.size ≤ 256) : ∀ (n x : Nat), x + n = s.size → ∀ j, qaf.l0 (n + 3 + j) s (s.data.toList.map qdu) (s.size : Int) (x : Int) = some true
 | 0, x, h, j => by
  rw [show 0 + 3 + j = j + 2 + 1 by omega, qaf.l0, if_neg (by omega)]
 | n + 1, x, h, j => by
  have hx : x < s.size := by omega
  have hlen : ((s.data.toList.map qdu).length : Int) = (s.size : Int) := by rw [List.length_map, qbj]
  have hrd : qae (s.data.toList.map qdu) (x : Int) = qdu s[x] := by
   unfold qae
   rw [Int.toNat_natCast, List.getD_eq_getElem?_getD, List.getElem?_map, List.getElem?_eq_getElem (by rw [← qbj]; exact hx)]
   rfl
  have hex : (s.extract x (x + 1)).data.toList = [s[x]] := by
   rw [Lib.extract_data, show x + 1 - x = 1 by omega, qck hx]
   rfl
  have hof : ∀ j, qb2.f (2 + j) (s.extract x (x + 1)) = some (ofL [s[x]]) := fun j => by
   have hz : (s.extract x (x + 1)).size = 1 := by rw [qbj, hex]; rfl
   have := Of_eq (a := s.extract x (x + 1)) (by omega) j
   rw [hz] at this
   rw [this, qha, hex]
  rw [show n + 1 + 3 + j = n + 3 + j + 1 by omega, qaf.l0, if_pos (by omega), if_pos (by omega), if_pos (by omega), hrd, if_pos (show (qdu s[x]).f0 = 1 from rfl), wrap_one (by omega), if_pos (by omega), if_pos (by omega),
   show ((x : Int)).toNat = x by omega, show (((x + 1 : Nat) : Int)).toNat = x + 1 by omega, show n + 3 + j = 2 + (n + 1 + j) by omega, hof, Option.bind_some, if_neg (by simp [qdu, leaf, toSet]), show 2 + (n + 1 + j) = n + 3 + j by omega]
  exact qhe s hs n (x + 1) (by omega) j
theorem qip (s : ByteArray) (hs : s.size ≤ 256) (j : Nat) : qaf.j0 (600 + s.size + j) s = some true := by
 obtain ⟨q, h1, h2⟩ := quoted_eq s (by omega) (s.size + 1 + (598 + j))
 have hsz := qgp s.data.toList
 rw [← h2, ← qbj, ← qbj] at hsz
 have hp := parse_f q (594 + s.size + j - q.size)
 rw [parse_quote q s.data.toList (by rw [← qbj]; exact hs) h2] at hp
 rw [show 600 + s.size + j = s.size + 1 + (598 + j) + 1 by omega, qaf.j0, h1, Option.bind_some, show s.size + 1 + (598 + j) = q.size + 5 + (594 + s.size + j - q.size) by omega, hp, Option.bind_some]
 simp only
 have hlen : ((s.data.toList.map qdu).length : Int) = (s.size : Int) := by rw [List.length_map, qbj]
 rw [if_pos trivial, if_pos trivial, hlen, show q.size + 5 + (594 + s.size + j - q.size) = s.size + 595 + j + 3 + 1 by omega, qaf.j1, if_neg (by simp)]
 rw [show s.size + 595 + j + 3 = s.size + 3 + (595 + j) by omega, hlen]
 exact qhe s hs s.size 0 (by omega) (595 + j)
theorem BreQuotes : qaf.Pure := by
 intro a0 h0
 by_cases hs : 256 < a0.size
 ·have hz : (a0.extract 0 256).size = 256 := by
   rw [qbj, Lib.extract_data, List.length_take, List.length_drop, ← qbj]
   omega
  refine ⟨600 + 256, ?_⟩
  unfold qaf.f
  rw [show 600 + 256 = 100 + 756 by omega, awake_up, Option.bind_some, if_pos rfl, if_pos (by omega), if_pos (by decide), if_pos (by omega)]
  have := qip (a0.extract 0 256) (by omega) 0
  rw [hz] at this
  exact this
 ·refine ⟨600 + a0.size, ?_⟩
  unfold qaf.f
  rw [show 600 + a0.size = 100 + (500 + a0.size) by omega, awake_up, Option.bind_some, if_pos rfl, if_neg (by omega), show 100 + (500 + a0.size) = 600 + a0.size + 0 by omega]
  exact qip a0 (by omega) 0
end Go.Proofs.Ytcmipoicnonaeaa.Pure
end
