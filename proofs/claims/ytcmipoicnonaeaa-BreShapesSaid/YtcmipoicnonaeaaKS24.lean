/- Texts of this claim, 24 of 29: BrePure1, BrePure2. -/

import Derived.Test.YtcmipoicnonaeaaKS21
section
namespace Go.Proofs.Ytcmipoicnonaeaa.F
open Go.RowKit Go.Proofs.YtcmipoicnonaeaaW.PrintWords Go.Proofs.YtcmipoicnonaeaaW.PrintLast Go.Proofs.YtcmipoicnonaeaaW.PrintMore
set_option linter.unusedVariables false
set_option linter.unusedSimpArgs false
def sumI : List Int → Int
 | [] => 0
 | a :: l => a + sumI l
theorem qeh : ∀ (a b : List Int), sumI (a ++ b) = sumI a + sumI b
 | [], b => by simp [sumI]
 | x :: a, b => by
  rw [List.cons_append, sumI, sumI, qeh a b]
  omega
theorem qfy : ∀ {l : List Int}, (∀ x ∈ l, 0 ≤ x) → 0 ≤ sumI l
 | [], _ => Int.le_refl _
 | a :: l, h => by
  have h1 := h a List.mem_cons_self
  have h2 := qfy (l := l) (fun x hx => h x (List.mem_cons_of_mem _ hx))
  rw [sumI]
  omega
theorem sumI_mem : ∀ {l : List Int} {x : Int}, (∀ y ∈ l, 0 ≤ y) → x ∈ l → x ≤ sumI l
 | [], _, _, h => by cases h
 | a :: l, x, h, hx => by
  have h1 := h a List.mem_cons_self
  have h2 := qfy (l := l) (fun x hx => h x (List.mem_cons_of_mem _ hx))
  rw [sumI]
  rcases List.mem_cons.1 hx with rfl | hx
  ·omega
  ·have := sumI_mem (l := l) (fun y hy => h y (List.mem_cons_of_mem _ hy)) hx
   omega
theorem sumW_eq : ∀ (l : List Int) (a : Int), (∀ x ∈ l, 0 ≤ x) → 0 ≤ a → a + sumI l ≤ 1000 → l.foldl (fun a n => wrap64 (a + n)) a = a + sumI l
 | [], a, _, _, _ => by simp [sumI]
 | b :: l, a, h, ha, hs => by
  have h1 := h b List.mem_cons_self
  have h2 := qfy (l := l) (fun x hx => h x (List.mem_cons_of_mem _ hx))
  rw [sumI] at hs
  rw [List.foldl_cons, qbt (by omega) (by omega), sumW_eq l (a + b) (fun x hx => h x (List.mem_cons_of_mem _ hx)) (by omega) (by omega), sumI]
  omega
def szF : List S59 → Int
 | [] => 0
 | f :: fs => sumI f.f1 + szF fs
structure OkF (f : S59) (n : Nat) : Prop where
 ln : f.f1.length = f.f0.length
 le : f.f0.length ≤ n
 g0 : 0 ≤ f.f2
 g9 : f.f2 ≤ 9
 nn : ∀ x ∈ f.f1, 0 ≤ x
theorem OkF.mono {f : S59} {n m : Nat} (h : OkF f n) (hm : n ≤ m) : OkF f m := ⟨h.ln, Nat.le_trans h.le hm, h.g0, h.g9, h.nn⟩
theorem szF_nn : ∀ {fs : List S59} {n : Nat}, (∀ f ∈ fs, OkF f n) → 0 ≤ szF fs
 | [], _, _ => Int.le_refl _
 | f :: fs, n, h => by
  have h1 := qfy (h f List.mem_cons_self).nn
  have h2 := szF_nn (fs := fs) (fun x hx => h x (List.mem_cons_of_mem _ hx))
  rw [szF]
  omega
structure OkP (p : PS) (n : Nat) (ne : Bool) : Prop where
 sh : p.sh.length = 10
 g0 : 0 ≤ p.gr
 g9 : p.gr ≤ 9
 fs : ∀ f ∈ p.fs, OkF f n
 dep : (p.fs.length : Int) ≤ p.gr + 1
 nil : p.fs ≠ []
 sz : p.sz = szF p.fs
 le : p.sz ≤ 256
 ne : ne = true → ∀ f fs, p.fs = f :: fs → f.f0 ≠ []
structure OkT (t : Tok) : Prop where
 k0 : 0 ≤ t.k
 k7 : t.k ≤ 7
 rep : t.k = 5 → 0 ≤ t.lo ∧ t.lo ≤ 255 ∧ (t.hi = -1 ∨ t.lo ≤ t.hi ∧ t.hi ≤ 255)
 back : t.k = 6 → 1 ≤ t.lo ∧ t.lo ≤ 9
 fault : t.k = 7 → t.e ≠ 0
def putC (p : PS) (r : S27) (n : Int) : PS :=
 match p.fs with
 | [] => p
 | f :: fs => { p with fs := { f with f0 := f.f0 ++ [r], f1 := f.f1 ++ [n] } :: fs, sz := p.sz + n }
def grp (g : Int) (xs : List S27) : S27 := ⟨4, z24, 0, 0, g, [⟨0, z24, 0, 0, 0, xs⟩]⟩
def closeC (p : PS) (f f2 : S59) (fs : List S59) : PS :=
 { p with fs := { f2 with f0 := f2.f0 ++ [grp f.f2 f.f0], f1 := f2.f1 ++ [sumI f.f1] } :: fs, sh := p.sh.set f.f2.toNat true }
def repC (p : PS) (f : S59) (fs : List S59) (lo hi : Int) : PS :=
 { p with fs := { f with f0 := f.f0.dropLast ++ [newR lo hi (f.f0.getLastD z27)], f1 := f.f1.dropLast ++ [f.f1.getLastD 0 * qcw lo hi] } :: fs, sz := p.sz + (f.f1.getLastD 0 * qcw lo hi - f.f1.getLastD 0) }
def takeC (p : PS) (t : Tok) : Int × PS :=
 if t.k = 0 then (qfb (p.sz + 1), putC p (leaf 1 ⟨t.s0, t.s1, t.s2, t.s3⟩ 0) 1)
 else if t.k = 1 then (0, putC p (leaf 2 z4 0) 0)
 else if t.k = 2 then (0, putC p (leaf 3 z4 0) 0)
 else if t.k = 3 then (if p.gr = 9 then (4, p) else (0, { p with gr := p.gr + 1, fs := ⟨[], [], p.gr + 1, t.a⟩ :: p.fs }))
 else if t.k = 4 then (match p.fs with
  | f :: f2 :: fs => (0, closeC p f f2 fs)
  | _ => (10, p))
 else if t.k = 5 then (match p.fs with
  | f :: fs => (qfb (repC p f fs t.lo t.hi).sz, repC p f fs t.lo t.hi)
  | [] => (0, p))
 else if t.k = 6 then (if p.sh.getD t.lo.toNat false = false then (11, p) else (qfb (p.sz + 1), putC p (leaf 6 z4 t.lo) 1))
 else (t.e, p)
theorem OkP.cons {p : PS} {n : Nat} {ne : Bool} (h : OkP p n ne) : ∃ f fs, p.fs = f :: fs ∧ OkF f n ∧ (∀ x ∈ fs, OkF x n) ∧ 0 ≤ sumI f.f1 ∧ 0 ≤ szF fs ∧ p.sz = sumI f.f1 + szF fs := by
 cases hf : p.fs with
 | nil => exact absurd hf h.nil
 | cons f fs =>
  have h1 := h.fs
  rw [hf] at h1
  have h2 := h.sz
  rw [hf] at h2
  exact ⟨f, fs, rfl, h1 f List.mem_cons_self, fun x hx => h1 x (List.mem_cons_of_mem _ hx), qfy (h1 f List.mem_cons_self).nn, szF_nn (fun x hx => h1 x (List.mem_cons_of_mem _ hx)), h2⟩
theorem OkP.small {p : PS} {n : Nat} {ne : Bool} (h : OkP p n ne) (hn : n ≤ 512) {f : S59} {fs : List S59} (hf : p.fs = f :: fs) : small f fs := by
 have h1 := h.fs f (by rw [hf]; exact List.mem_cons_self)
 have h2 := h.dep
 have h3 := h.g9
 rw [hf, List.length_cons] at h2
 have := h1.ln
 have := h1.le
 exact ⟨by omega, by omega, by omega⟩
theorem put_eq {p : PS} {n : Nat} {ne : Bool} (h : OkP p n ne) (hn : n ≤ 512) (r : S27) (m : Int) : ∃ f fs, p.fs = f :: fs ∧ putP p r m = some { p with fs := { f with f0 := f.f0 ++ [r], f1 := f.f1 ++ [m] } :: fs } ∧ putC p r m = { p with fs := { f with f0 := f.f0 ++ [r], f1 := f.f1 ++ [m] } :: fs, sz := p.sz + m } := by
 obtain ⟨f, fs, hf, _⟩ := h.cons
 have hs := h.small hn hf
 refine ⟨f, fs, hf, ?_, ?_⟩
 ·unfold putP
  rw [hf]
  exact if_pos hs
 ·unfold putC
  rw [hf]
theorem szF_le {p : PS} {n : Nat} {ne : Bool} (h : OkP p n ne) : 0 ≤ p.sz := by
 obtain ⟨f, fs, hf, _, _, h1, h2, h3⟩ := h.cons
 omega
theorem qij {α : Type} {l : List α} {d : α} (h : l ≠ []) : l.getLastD d ∈ l := by
 rw [List.getLastD_eq_getLast?, List.getLast?_eq_some_getLast h]
 exact List.getLast_mem h
theorem qfc {α : Type} {l : List α} {d : α} (h : l ≠ []) : l.dropLast ++ [l.getLastD d] = l := by
 rw [List.getLastD_eq_getLast?, List.getLast?_eq_some_getLast h]
 exact List.dropLast_concat_getLast h
theorem qi5 {lo hi : Int} (h : 0 ≤ lo ∧ lo ≤ 255 ∧ (hi = -1 ∨ lo ≤ hi ∧ hi ≤ 255)) : 0 ≤ qcw lo hi ∧ qcw lo hi ≤ 255 := by
 unfold qcw
 by_cases c : hi < 0
 ·rw [if_pos c]
  omega
 ·rw [if_neg c]
  omega
theorem qhf {a b : Int} (h0 : 0 ≤ a) (h1 : a ≤ 256) (h2 : 0 ≤ b) (h3 : b ≤ 255) : 0 ≤ a * b ∧ a * b ≤ 65280 := by
 refine ⟨Int.mul_nonneg h0 h2, Int.le_trans (Int.mul_le_mul_of_nonneg_right h1 h2) ?_⟩
 omega
theorem take_eq {p : PS} {n : Nat} {ne : Bool} {t : Tok} (h : OkP p n ne) (hn : n ≤ 512) (ht : OkT t) (h5 : t.k = 5 → ne = true) : qed p t = some (takeC p t) := by
 have hz := szF_le h
 have hle := h.le
 obtain ⟨f, fs, hf, hF, hFs, hs1, hs2, hs3⟩ := h.cons
 have hsm := h.small hn hf
 have hw : wrap64 (p.sz + 1) = p.sz + 1 := qbt (by omega) (by omega)
 unfold qed takeP takeC
 by_cases c0 : t.k = 0
 ·obtain ⟨f', fs', _, e1, e2⟩ := put_eq h hn (leaf 1 ⟨t.s0, t.s1, t.s2, t.s3⟩ 0) 1
  rw [if_pos c0, if_pos c0, e1, e2, Option.map_some]
  unfold grown
  simp only
  rw [hw]
 rw [if_neg c0, if_neg c0]
 by_cases c1 : t.k = 1
 ·obtain ⟨f', fs', _, e1, e2⟩ := put_eq h hn (leaf 2 z4 0) 0
  rw [if_pos c1, if_pos c1, e1, e2, Option.map_some, Int.add_zero]
 rw [if_neg c1, if_neg c1]
 by_cases c2 : t.k = 2
 ·obtain ⟨f', fs', _, e1, e2⟩ := put_eq h hn (leaf 3 z4 0) 0
  rw [if_pos c2, if_pos c2, e1, e2, Option.map_some, Int.add_zero]
 rw [if_neg c2, if_neg c2]
 by_cases c3 : t.k = 3
 ·rw [if_pos c3, if_pos c3]
  have := h.dep
  have := h.g9
  exact if_pos ⟨h.g0, h.g9, by omega⟩
 rw [if_neg c3, if_neg c3]
 by_cases c4 : t.k = 4
 ·rw [if_pos c4, if_pos c4]
  unfold qh2
  rw [hf]
  cases fs with
  | nil => rfl
  | cons f2 fs =>
   have hsm2 : small f2 fs := by
    have h1 := hFs f2 List.mem_cons_self
    have h2 := hsm.2.2
    rw [List.length_cons] at h2
    have := h1.ln
    have := h1.le
    exact ⟨by omega, by omega, by omega⟩
   have hsm1 : small f fs := ⟨hsm.1, hsm.2.1, by have := hsm.2.2; rw [List.length_cons] at this; omega⟩
   show (if _ then _ else _) = _
   rw [if_pos ⟨hF.g0, by have := hF.g9; omega, hsm1, hsm2⟩]
   unfold closed closeC sumW
   rw [sumW_eq f.f1 0 hF.nn (Int.le_refl _) (by omega), Int.zero_add]
   rfl
 rw [if_neg c4, if_neg c4]
 by_cases c5 : t.k = 5
 ·rw [if_pos c5, if_pos c5]
  unfold repP
  rw [hf]
  have hne := h.ne (h5 c5) f fs hf
  have hne1 : f.f1 ≠ [] := fun e => hne (List.length_eq_zero_iff.1 (by rw [← hF.ln, e]; rfl))
  have hm := qij (d := (0 : Int)) hne1
  have ho := hF.nn _ hm
  have ho2 := sumI_mem hF.nn hm
  have ht2 := qi5 (ht.rep c5)
  have hmul := qhf ho (by omega) ht2.1 ht2.2
  show (if _ then _ else _) = _
  rw [if_pos ⟨hne, hF.ln, hsm⟩]
  have e : repS p f fs f.f0.dropLast (f.f0.getLastD z27) f.f1.dropLast (f.f1.getLastD 0) t.lo t.hi = repC p f fs t.lo t.hi := by
   unfold repS repC
   rw [qbt (x := f.f1.getLastD 0 * qcw t.lo t.hi) (by omega) (by omega), qbt (x := f.f1.getLastD 0 * qcw t.lo t.hi - f.f1.getLastD 0) (by omega) (by omega), qbt (by omega) (by omega)]
  rw [e]
 rw [if_neg c5, if_neg c5]
 by_cases c6 : t.k = 6
 ·have hb := ht.back c6
  rw [if_pos c6, if_pos c6, if_pos ⟨by omega, by omega⟩]
  by_cases c : p.sh.getD t.lo.toNat false = false
  ·rw [if_pos c, if_pos c]
  ·obtain ⟨f', fs', _, e1, e2⟩ := put_eq h hn (leaf 6 z4 t.lo) 1
   rw [if_neg c, if_neg c, e1, e2, Option.map_some]
   unfold grown
   simp only
   rw [hw]
 rw [if_neg c6, if_neg c6]
theorem qgb {s : Int} (h : qfb s = 0) : s ≤ 256 := by
 unfold qfb at h
 by_cases c : 256 < s
 ·rw [if_pos c] at h
  omega
 ·omega
theorem OkF.snoc {f : S59} {n : Nat} (h : OkF f n) (r : S27) {m : Int} (hm : 0 ≤ m) : OkF { f with f0 := f.f0 ++ [r], f1 := f.f1 ++ [m] } (n + 1) := by
 refine ⟨?_, ?_, h.g0, h.g9, fun x hx => ?_⟩
 ·show (f.f1 ++ [m]).length = (f.f0 ++ [r]).length
  rw [List.length_append, List.length_append, h.ln]
  rfl
 ·show (f.f0 ++ [r]).length ≤ n + 1
  have := h.le
  rw [List.length_append]
  simpa using this
 ·rcases List.mem_append.1 hx with hx | hx
  ·exact h.nn x hx
  ·rw [List.mem_singleton.1 hx]
   exact hm
theorem qir {p : PS} {n : Nat} {ne : Bool} (h : OkP p n ne) (r : S27) {m : Int} (hm : 0 ≤ m) (hs : p.sz + m ≤ 256) : OkP (putC p r m) (n + 1) true := by
 obtain ⟨f, fs, hf, hF, hFs, hs1, hs2, hs3⟩ := h.cons
 unfold putC
 rw [hf]
 refine ⟨h.sh, h.g0, h.g9, fun x hx => ?_, ?_, List.cons_ne_nil _ _, ?_, hs, fun _ g gs hg => ?_⟩
 ·rcases List.mem_cons.1 hx with rfl | hx
  ·exact hF.snoc r hm
  ·exact (hFs x hx).mono (Nat.le_succ _)
 ·have := h.dep
  rw [hf] at this
  exact this
 ·show p.sz + m = sumI (f.f1 ++ [m]) + szF fs
  rw [qeh, hs3]
  simp only [sumI]
  omega
 ·injection hg with hg _
  rw [← hg]
  simp
theorem qh4 {p : PS} {n : Nat} {ne : Bool} {t : Tok} (h : OkP p n ne) (ht : OkT t) (h5 : t.k = 5 → ne = true) (h0 : (takeC p t).1 = 0) : OkP (takeC p t).2 (n + 1) (t.k != 3) := by
 have hz := szF_le h
 have hle := h.le
 obtain ⟨f, fs, hf, hF, hFs, hs1, hs2, hs3⟩ := h.cons
 unfold takeC at h0 ⊢
 by_cases c0 : t.k = 0
 ·rw [if_pos c0] at h0 ⊢
  have := qir h (leaf 1 ⟨t.s0, t.s1, t.s2, t.s3⟩ 0) (m := 1) (by omega) (qgb h0)
  rw [show (t.k != 3) = true by rw [c0]; rfl]
  exact this
 rw [if_neg c0] at h0 ⊢
 by_cases c1 : t.k = 1
 ·rw [if_pos c1] at h0 ⊢
  rw [show (t.k != 3) = true by rw [c1]; rfl]
  exact qir h _ (Int.le_refl _) (by omega)
 rw [if_neg c1] at h0 ⊢
 by_cases c2 : t.k = 2
 ·rw [if_pos c2] at h0 ⊢
  rw [show (t.k != 3) = true by rw [c2]; rfl]
  exact qir h _ (Int.le_refl _) (by omega)
 rw [if_neg c2] at h0 ⊢
 by_cases c3 : t.k = 3
 ·rw [if_pos c3] at h0 ⊢
  rw [show (t.k != 3) = false by rw [c3]; rfl]
  by_cases c9 : p.gr = 9
  ·rw [if_pos c9] at h0
   cases h0
  rw [if_neg c9]
  have h0' := h.g0
  have h9' := h.g9
  refine ⟨h.sh, by show 0 ≤ p.gr + 1; omega, by show p.gr + 1 ≤ 9; omega, fun x hx => ?_, ?_, List.cons_ne_nil _ _, ?_, h.le, fun e => by cases e⟩
  ·rcases List.mem_cons.1 hx with rfl | hx
   ·exact ⟨rfl, Nat.zero_le _, by show 0 ≤ p.gr + 1; omega, by show p.gr + 1 ≤ 9; omega, fun x hx => by cases hx⟩
   ·exact (h.fs x hx).mono (Nat.le_succ _)
  ·have := h.dep
   show ((⟨[], [], p.gr + 1, t.a⟩ :: p.fs : List S59).length : Int) ≤ p.gr + 1 + 1
   rw [List.length_cons]
   omega
  ·show p.sz = sumI [] + szF p.fs
   rw [h.sz]
   simp [sumI]
 rw [if_neg c3] at h0 ⊢
 have k3 : (t.k != 3) = true := by simpa using c3
 rw [k3]
 by_cases c4 : t.k = 4
 ·rw [if_pos c4] at h0 ⊢
  have hd := h.dep
  rw [hf] at h0 ⊢ hd
  cases fs with
  | nil => cases h0
  | cons f2 fs =>
   have hF2 := hFs f2 List.mem_cons_self
   refine ⟨by show (p.sh.set f.f2.toNat true).length = 10; rw [List.length_set, h.sh], h.g0, h.g9, fun x hx => ?_, ?_, List.cons_ne_nil _ _, ?_, h.le, fun _ g gs hg => ?_⟩
   ·rcases List.mem_cons.1 hx with rfl | hx
    ·exact hF2.snoc _ hs1
    ·exact (hFs x (List.mem_cons_of_mem _ hx)).mono (Nat.le_succ _)
   ·show ((_ :: fs : List S59).length : Int) ≤ p.gr + 1
    rw [List.length_cons, List.length_cons] at hd
    rw [List.length_cons]
    omega
   ·show p.sz = sumI (f2.f1 ++ [sumI f.f1]) + szF fs
    rw [hs3, szF, qeh]
    simp only [sumI]
    omega
   ·injection hg with hg _
    rw [← hg]
    simp
 rw [if_neg c4] at h0 ⊢
 by_cases c5 : t.k = 5
 ·rw [if_pos c5] at h0 ⊢
  have hne := h.ne (h5 c5) f fs hf
  have hne1 : f.f1 ≠ [] := fun e => hne (List.length_eq_zero_iff.1 (by rw [← hF.ln, e]; rfl))
  have hm := qij (d := (0 : Int)) hne1
  have ho := hF.nn _ hm
  have ht2 := qi5 (ht.rep c5)
  have hmul := Int.mul_nonneg ho ht2.1
  have hd := h.dep
  rw [hf] at h0 ⊢ hd
  have hs := qfc (d := (0 : Int)) hne1
  have hsum : sumI f.f1 = sumI f.f1.dropLast + f.f1.getLastD 0 := by
   conv => lhs; rw [← hs, qeh]
   simp [sumI]
  have hl0 : f.f0.length ≠ 0 := fun e => hne (List.length_eq_zero_iff.1 e)
  refine ⟨h.sh, h.g0, h.g9, fun x hx => ?_, hd, List.cons_ne_nil _ _, ?_, qgb h0, fun _ g gs hg => ?_⟩
  ·rcases List.mem_cons.1 hx with rfl | hx
   ·refine ⟨?_, ?_, hF.g0, hF.g9, fun x hx => ?_⟩
    ·show (f.f1.dropLast ++ [_]).length = (f.f0.dropLast ++ [_]).length
     rw [List.length_append, List.length_append, List.length_dropLast, List.length_dropLast, hF.ln]
     rfl
    ·show (f.f0.dropLast ++ [_]).length ≤ n + 1
     have := hF.le
     rw [List.length_append, List.length_dropLast]
     simp only [List.length_cons, List.length_nil]
     omega
    ·rcases List.mem_append.1 hx with hx | hx
     ·exact hF.nn x (List.dropLast_subset _ hx)
     ·rw [List.mem_singleton.1 hx]
      exact hmul
   ·exact (hFs x hx).mono (Nat.le_succ _)
  ·show p.sz + (f.f1.getLastD 0 * qcw t.lo t.hi - f.f1.getLastD 0) = sumI (f.f1.dropLast ++ [f.f1.getLastD 0 * qcw t.lo t.hi]) + szF fs
   rw [qeh, hs3, hsum]
   simp only [sumI]
   omega
  ·injection hg with hg _
   rw [← hg]
   simp
 rw [if_neg c5] at h0 ⊢
 by_cases c6 : t.k = 6
 ·rw [if_pos c6] at h0 ⊢
  by_cases c : p.sh.getD t.lo.toNat false = false
  ·rw [if_pos c] at h0
   cases h0
  rw [if_neg c] at h0 ⊢
  exact qir h (leaf 6 z4 t.lo) (m := 1) (by omega) (qgb h0)
 rw [if_neg c6] at h0
 have := ht.k0
 have := ht.k7
 exact absurd h0 (ht.fault (by omega))
theorem p0_ok : OkP p0 0 false := by
 refine ⟨rfl, Int.le_refl _, by decide, fun f hf => ?_, by decide, List.cons_ne_nil _ _, rfl, by decide, fun e => by cases e⟩
 rw [List.mem_singleton.1 hf]
 exact ⟨rfl, Nat.le_refl _, Int.le_refl _, by decide, fun x hx => by cases hx⟩
def runC : PS → List Tok → Sum (Int × Int) PS
 | p, [] => .inr p
 | p, t :: ts => if (takeC p t).1 = 0 then runC (takeC p t).2 ts else .inl ((takeC p t).1, t.a)
def OkL : Bool → List Tok → Prop
 | _, [] => True
 | b, t :: ts => OkT t ∧ (t.k = 5 → b = false) ∧ OkL (t.k == 3 || t.k == 1 || t.k == 2) ts
theorem run_eq : ∀ (L : List Tok) {p : PS} {n : Nat} {ne b : Bool}, OkP p n ne → n + L.length ≤ 513 → OkL b L → (b = false → ne = true) → runP p L = some (runC p L)
 | [], p, n, ne, b, _, _, _, _ => rfl
 | t :: ts, p, n, ne, b, h, hn, ⟨ht, hb, hts⟩, hbn => by
  rw [List.length_cons] at hn
  have h5 : t.k = 5 → ne = true := fun c => hbn (hb c)
  rw [runP, runC, take_eq h (by omega) ht h5, Option.bind_some]
  by_cases c : (takeC p t).1 = 0
  ·rw [if_pos c, if_pos c]
   refine run_eq ts (qh4 h ht h5 c) (by omega) hts (fun e => ?_)
   rw [Bool.or_eq_false_iff, Bool.or_eq_false_iff] at e
   rw [bne, e.1.1]
   rfl
  ·rw [if_neg c, if_neg c]
def ansC : Sum (Int × Int) PS → List S27 × Int × Int
 | .inl (e, a) => ([], e, a)
 | .inr p => match p.fs with
  | [f] => (f.f0, 0, 0)
  | f :: _ => ([], 10, f.f3)
  | [] => ([], 0, 0)
theorem run_ok : ∀ (L : List Tok) {p : PS} {n : Nat} {ne b : Bool} {q : PS}, OkP p n ne → OkL b L → (b = false → ne = true) → runC p L = .inr q → ∃ ne', OkP q (n + L.length) ne'
 | [], p, n, ne, b, q, h, _, _, hq => by
  cases hq
  exact ⟨ne, h⟩
 | t :: ts, p, n, ne, b, q, h, ⟨ht, hb, hts⟩, hbn, hq => by
  have h5 : t.k = 5 → ne = true := fun c => hbn (hb c)
  rw [runC] at hq
  by_cases c : (takeC p t).1 = 0
  ·rw [if_pos c] at hq
   obtain ⟨ne', h'⟩ := run_ok ts (qh4 h ht h5 c) hts (fun e => by
    rw [Bool.or_eq_false_iff, Bool.or_eq_false_iff] at e
    rw [bne, e.1.1]
    rfl) hq
   rw [List.length_cons, show n + (ts.length + 1) = n + 1 + ts.length by omega]
   exact ⟨ne', h'⟩
  ·rw [if_neg c] at hq
   cases hq
theorem ans_eq {L : List Tok} (hn : L.length ≤ 513) (hL : OkL true L) : (runP p0 L).bind ansP = some (ansC (runC p0 L)) := by
 rw [run_eq L p0_ok (by omega) hL (fun e => by cases e), Option.bind_some]
 cases hr : runC p0 L with
 | inl q => rfl
 | inr q =>
  obtain ⟨ne, h⟩ := run_ok L p0_ok hL (fun e => by cases e) hr
  have h1 := h.nil
  have h2 := h.dep
  have h3 := h.g9
  unfold ansP ansC
  simp only
  match hq : q.fs with
  | [] => exact absurd hq h1
  | [f] => rfl
  | f :: f2 :: fs =>
   rw [hq, List.length_cons, List.length_cons] at h2
   exact if_pos (by omega)
end Go.Proofs.Ytcmipoicnonaeaa.F
end
section
namespace Go.Proofs.Ytcmipoicnonaeaa.F
open Go.RowKit Go.Proofs.YtcmipoicnonaeaaW.PrintWords Go.Proofs.YtcmipoicnonaeaaW.PrintLast Go.Proofs.YtcmipoicnonaeaaW.PrintMore
set_option linter.unusedVariables false
set_option linter.unusedSimpArgs false
mutual
def posT : S27 → Int
 | ⟨k, _, lo, hi, _, xs⟩ => if k = 1 ∨ k = 6 then 1 else if k = 5 then posL xs * qcw lo hi else posL xs
def posL : List S27 → Int
 | [] => 0
 | x :: xs => posT x + posL xs
end
theorem qhs : ∀ (a b : List S27), posL (a ++ b) = posL a + posL b
 | [], b => by simp [posL]
 | x :: a, b => by
  rw [List.cons_append, posL, posL, qhs a b]
  omega
def nodeOk (k : Int) (s : S24) (lo hi g : Int) (xs : List S27) (n : Int) (c : List Bool) : Prop :=
 (k = 0 ∧ s = z4 ∧ lo = 0 ∧ hi = 0 ∧ g = 0) ∨ (k = 1 ∧ lo = 0 ∧ hi = 0 ∧ g = 0 ∧ xs = []) ∨ ((k = 2 ∨ k = 3) ∧ s = z4 ∧ lo = 0 ∧ hi = 0 ∧ g = 0 ∧ xs = []) ∨
 (k = 4 ∧ s = z4 ∧ lo = 0 ∧ hi = 0 ∧ g = n + 1 ∧ g ≤ 9 ∧ ∃ x, xs = [x] ∧ x.f0 = 0) ∨
 (k = 5 ∧ s = z4 ∧ g = 0 ∧ 0 ≤ lo ∧ lo ≤ 255 ∧ (hi = -1 ∨ lo ≤ hi ∧ hi ≤ 255) ∧ ∃ x, xs = [x] ∧ x.f0 ≠ 0 ∧ x.f0 ≠ 2 ∧ x.f0 ≠ 3) ∨
 (k = 6 ∧ s = z4 ∧ lo = 0 ∧ hi = 0 ∧ 1 ≤ g ∧ g ≤ 9 ∧ c.getD g.toNat false = true ∧ xs = [])
mutual
def Shp : S27 → Int → List Bool → Int → List Bool → Prop
 | ⟨k, s, lo, hi, g, xs⟩, n, c, n', c' => nodeOk k s lo hi g xs n c ∧ ∃ c1, ShpL xs (if k = 4 then n + 1 else n) c n' c1 ∧ c' = if k = 4 then c1.set g.toNat true else c1
def ShpL : List S27 → Int → List Bool → Int → List Bool → Prop
 | [], n, c, n', c' => n' = n ∧ c' = c
 | x :: xs, n, c, n', c' => ∃ n1 c1, Shp x n c n1 c1 ∧ ShpL xs n1 c1 n' c'
end
theorem qe3 : ∀ (a b : List S27) (n : Int) (c : List Bool) (n' : Int) (c' : List Bool), ShpL (a ++ b) n c n' c' ↔ ∃ n1 c1, ShpL a n c n1 c1 ∧ ShpL b n1 c1 n' c'
 | [], b, n, c, n', c' => by
  constructor
  ·intro h
   exact ⟨n, c, ⟨rfl, rfl⟩, h⟩
  ·rintro ⟨n1, c1, ⟨rfl, rfl⟩, h⟩
   exact h
 | x :: a, b, n, c, n', c' => by
  rw [List.cons_append, ShpL]
  constructor
  ·rintro ⟨n1, c1, h1, h2⟩
   obtain ⟨n2, c2, h3, h4⟩ := (qe3 a b _ _ _ _).1 h2
   exact ⟨n2, c2, ⟨n1, c1, h1, h3⟩, h4⟩
  ·rintro ⟨n2, c2, ⟨n1, c1, h1, h3⟩, h4⟩
   exact ⟨n1, c1, h1, (qe3 a b _ _ _ _).2 ⟨n2, c2, h3, h4⟩⟩
theorem qgf {x : S27} {n : Int} {c : List Bool} {n' : Int} {c' : List Bool} : ShpL [x] n c n' c' ↔ Shp x n c n' c' := by
 rw [ShpL]
 constructor
 ·rintro ⟨n1, c1, h, rfl, rfl⟩
  exact h
 ·intro h
  exact ⟨n', c', h, rfl, rfl⟩
def ShpF : List S59 → Int → List Bool → Prop
 | [], _, _ => False
 | [f], n, c => ShpL f.f0 0 (List.replicate 10 false) n c
 | f :: g :: fs, n, c => ∃ n1 c1, ShpF (g :: fs) n1 c1 ∧ f.f2 = n1 + 1 ∧ f.f2 ≤ 9 ∧ ShpL f.f0 (n1 + 1) c1 n c
def repable (k : Int) : Prop := k ≠ 0 ∧ k ≠ 2 ∧ k ≠ 3
theorem qin {k : Int} (h : k = 1 ∨ k = 4 ∨ k = 5 ∨ k = 6) : repable k := ⟨by omega, by omega, by omega⟩
structure OkS (p : PS) (b : Bool) : Prop where
 shp : ShpF p.fs p.gr p.sh
 pos : ∀ f ∈ p.fs, f.f1 = f.f0.map posT
 last : b = false → ∀ f fs, p.fs = f :: fs → f.f0 ≠ [] ∧ repable (f.f0.getLastD z27).f0
theorem qfw : ∀ (xs : List S27), sumI (xs.map posT) = posL xs
 | [] => by simp [sumI, posL]
 | x :: xs => by
  rw [List.map_cons, sumI, posL, qfw xs]
theorem qi2 {f f' : S59} {fs : List S59} {n : Int} {c : List Bool} {n' : Int} {c' : List Bool} (h : ShpF (f :: fs) n c) (hg : f'.f2 = f.f2) (hf : ∀ a b, ShpL f.f0 a b n c → ShpL f'.f0 a b n' c') : ShpF (f' :: fs) n' c' := by
 cases fs with
 | nil => exact hf _ _ h
 | cons g fs =>
  obtain ⟨n1, c1, h1, h2, h3, h4⟩ := h
  exact ⟨n1, c1, h1, by rw [hg]; exact h2, by rw [hg]; exact h3, hf _ _ h4⟩
theorem qhg {p : PS} {b b' : Bool} (h : OkS p b) {n : Nat} {ne : Bool} (hp : OkP p n ne) {x : S27} {m : Int} (hx : Shp x p.gr p.sh p.gr p.sh) (hm : m = posT x) (hb : b' = false → repable x.f0) : OkS (putC p x m) b' := by
 obtain ⟨f, fs, hf, -⟩ := hp.cons
 have h1 := h.shp
 have h2 := h.pos
 rw [hf] at h1 h2
 unfold putC
 rw [hf]
 refine ⟨qi2 h1 rfl (fun a b hab => (qe3 _ _ _ _ _ _).2 ⟨_, _, hab, qgf.2 hx⟩), fun y hy => ?_, fun e g gs hg => ?_⟩
 ·rcases List.mem_cons.1 hy with rfl | hy
  ·show f.f1 ++ [m] = (f.f0 ++ [x]).map posT
   rw [List.map_append, h2 f List.mem_cons_self, hm]
   rfl
  ·exact h2 y (List.mem_cons_of_mem _ hy)
 ·injection hg with hg _
  rw [← hg]
  refine ⟨by simp, ?_⟩
  show repable ((f.f0 ++ [x]).getLastD _).f0
  rw [List.getLastD_concat]
  exact hb e
theorem take_shp {p : PS} {n : Nat} {ne b : Bool} {t : Tok} (hp : OkP p n ne) (h : OkS p b) (ht : OkT t) (h5 : t.k = 5 → b = false) (h0 : (takeC p t).1 = 0) : OkS (takeC p t).2 (t.k == 3 || t.k == 1 || t.k == 2) := by
 obtain ⟨f, fs, hf, hF, hFs, -⟩ := hp.cons
 have h1 := h.shp
 have h2 := h.pos
 unfold takeC at h0 ⊢
 by_cases c0 : t.k = 0
 ·rw [if_pos c0]
  exact qhg h hp ⟨.inr (.inl ⟨rfl, rfl, rfl, rfl, rfl⟩), _, ⟨rfl, rfl⟩, rfl⟩ (by simp [leaf, posT]) (fun _ => qin (by first | exact .inl rfl | exact .inr (.inr (.inr rfl))))
 rw [if_neg c0] at h0 ⊢
 by_cases c1 : t.k = 1
 ·rw [if_pos c1]
  exact qhg h hp ⟨.inr (.inr (.inl ⟨.inl rfl, rfl, rfl, rfl, rfl, rfl⟩)), _, ⟨rfl, rfl⟩, rfl⟩ (by simp [leaf, posT, posL]) (fun e => by rw [c1] at e; cases e)
 rw [if_neg c1] at h0 ⊢
 by_cases c2 : t.k = 2
 ·rw [if_pos c2]
  exact qhg h hp ⟨.inr (.inr (.inl ⟨.inr rfl, rfl, rfl, rfl, rfl, rfl⟩)), _, ⟨rfl, rfl⟩, rfl⟩ (by simp [leaf, posT, posL]) (fun e => by rw [c2] at e; cases e)
 rw [if_neg c2] at h0 ⊢
 by_cases c3 : t.k = 3
 ·rw [if_pos c3] at h0 ⊢
  by_cases c9 : p.gr = 9
  ·rw [if_pos c9] at h0
   cases h0
  rw [if_neg c9]
  have h9' := hp.g9
  refine ⟨?_, fun y hy => ?_, fun e => by rw [c3] at e; cases e⟩
  ·show ShpF (⟨[], [], p.gr + 1, t.a⟩ :: p.fs) (p.gr + 1) p.sh
   rw [hf] at h1 ⊢
   exact ⟨p.gr, p.sh, h1, rfl, by show p.gr + 1 ≤ 9; omega, rfl, rfl⟩
  ·rcases List.mem_cons.1 hy with rfl | hy
   ·rfl
   ·exact h2 y hy
 rw [if_neg c3] at h0 ⊢
 by_cases c4 : t.k = 4
 ·rw [if_pos c4] at h0 ⊢
  rw [hf] at h0 ⊢ h1 h2
  cases fs with
  | nil => cases h0
  | cons f2 fs =>
   obtain ⟨n1, c1, g1, g2, g3, g4⟩ := h1
   refine ⟨qi2 g1 rfl (fun a b hab => (qe3 _ _ _ _ _ _).2 ⟨_, _, hab, qgf.2 ?_⟩), fun y hy => ?_, fun _ g gs hg => ?_⟩
   ·refine ⟨.inr (.inr (.inr (.inl ⟨rfl, rfl, rfl, rfl, g2, g3, _, rfl, rfl⟩))), p.sh, ?_, (if_pos rfl).symm⟩
    rw [if_pos rfl]
    exact qgf.2 ⟨.inl ⟨rfl, rfl, rfl, rfl, rfl⟩, p.sh, g4, rfl⟩
   ·rcases List.mem_cons.1 hy with rfl | hy
    ·show f2.f1 ++ [sumI f.f1] = (f2.f0 ++ [grp f.f2 f.f0]).map posT
     rw [List.map_append, h2 f2 (List.mem_cons_of_mem _ List.mem_cons_self), h2 f List.mem_cons_self, qfw]
     simp [grp, posT, posL]
    ·exact h2 y (List.mem_cons_of_mem _ (List.mem_cons_of_mem _ hy))
   ·injection hg with hg _
    rw [← hg]
    refine ⟨by simp, ?_⟩
    show repable ((f2.f0 ++ [grp f.f2 f.f0]).getLastD _).f0
    rw [List.getLastD_concat]
    exact qin (by first | exact .inr (.inl rfl) | exact .inr (.inr (.inl rfl)))
 rw [if_neg c4] at h0 ⊢
 by_cases c5 : t.k = 5
 ·rw [if_pos c5] at h0 ⊢
  obtain ⟨hne, hr⟩ := h.last (h5 c5) f fs hf
  rw [hf] at h0 ⊢ h1 h2
  have ht2 := ht.rep c5
  have hd := qfc (d := z27) hne
  have e1 := h2 f List.mem_cons_self
  have hl : f.f1.getLastD 0 = posT (f.f0.getLastD z27) := by
   rw [e1, ← hd, List.map_append, List.map_cons, List.map_nil, List.getLastD_concat, List.getLastD_concat]
  refine ⟨qi2 h1 rfl (fun a b hab => ?_), fun y hy => ?_, fun _ g gs hg => ?_⟩
  ·rw [← hd] at hab
   obtain ⟨n1, c1, q1, q2⟩ := (qe3 _ _ _ _ _ _).1 hab
   refine (qe3 _ _ _ _ _ _).2 ⟨n1, c1, q1, qgf.2 ⟨.inr (.inr (.inr (.inr (.inl ⟨rfl, rfl, rfl, ht2.1, ht2.2.1, ht2.2.2, _, rfl, hr⟩)))), p.sh, ?_, rfl⟩⟩
   exact q2
  ·rcases List.mem_cons.1 hy with rfl | hy
   ·show f.f1.dropLast ++ [f.f1.getLastD 0 * qcw t.lo t.hi] = (f.f0.dropLast ++ [newR t.lo t.hi (f.f0.getLastD z27)]).map posT
    rw [List.map_append, hl, e1, List.map_dropLast]
    simp [newR, posT, posL]
   ·exact h2 y (List.mem_cons_of_mem _ hy)
  ·injection hg with hg _
   rw [← hg]
   refine ⟨by simp, ?_⟩
   show repable ((f.f0.dropLast ++ [newR t.lo t.hi (f.f0.getLastD z27)]).getLastD _).f0
   rw [List.getLastD_concat]
   exact qin (by first | exact .inr (.inl rfl) | exact .inr (.inr (.inl rfl)))
 rw [if_neg c5] at h0 ⊢
 by_cases c6 : t.k = 6
 ·rw [if_pos c6] at h0 ⊢
  by_cases c : p.sh.getD t.lo.toNat false = false
  ·rw [if_pos c] at h0
   cases h0
  rw [if_neg c]
  have hb := ht.back c6
  exact qhg h hp ⟨.inr (.inr (.inr (.inr (.inr ⟨rfl, rfl, rfl, rfl, hb.1, hb.2, by simpa using c, rfl⟩)))), _, ⟨rfl, rfl⟩, rfl⟩ (by simp [leaf, posT]) (fun _ => qin (by first | exact .inl rfl | exact .inr (.inr (.inr rfl))))
 rw [if_neg c6] at h0
 have := ht.k0
 have := ht.k7
 exact absurd h0 (ht.fault (by omega))
theorem p0_shp : OkS p0 true := ⟨⟨rfl, rfl⟩, fun f hf => by rw [List.mem_singleton.1 hf]; rfl, fun e => by cases e⟩
end Go.Proofs.Ytcmipoicnonaeaa.F
end
