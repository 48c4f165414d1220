/- Texts of this claim, 19 of 29: F26, BreRun. -/
import Derived.Deep.RegionLaw
import Derived.Test.YtcmipoicnonaeaaKS5
import Derived.Test.YtcmipoicnonaeaaKS7
import Derived.Test.YtcmipoicnonaeaaKS16
import Derived.Test.YtcmipoicnonaeaaKS17
import Derived.Test.YtcmipoicnonaeaaKS18
section
namespace Go.Proofs.Ytcmipoicnonaeaa.F
open Go.RowKit Go.Proofs.YtcmipoicnonaeaaW.PrintWords Go.Proofs.YtcmipoicnonaeaaW.PrintLast Go.Proofs.YtcmipoicnonaeaaW.PrintMore
set_option linter.unusedVariables false
set_option linter.unusedSimpArgs false
def small (f : S59) (fs : List S59) : Prop := f.f0.length ≤ 90000 ∧ f.f1.length ≤ 90000 ∧ fs.length ≤ 800
instance (f : S59) (fs : List S59) : Decidable (small f fs) := inferInstanceAs (Decidable (_ ∧ _))
def putP (p : PS) (r : S27) (n : Int) : Option PS :=
 match p.fs with
 | [] => none
 | f :: fs => if small f fs then some { p with fs := { f with f0 := f.f0 ++ [r], f1 := f.f1 ++ [n] } :: fs } else none
def qfb (s : Int) : Int := if 256 < s then 13 else 0
def grown (q : PS) (n : Int) : Int × PS := (qfb (wrap64 (q.sz + n)), { q with sz := wrap64 (q.sz + n) })
def leaf (k : Int) (s : S24) (g : Int) : S27 := ⟨k, s, 0, 0, g, []⟩
def z4 : S24 := ⟨0, 0, 0, 0⟩
def openP (p : PS) (at_ : Int) : Option (Int × PS) :=
 if 0 ≤ p.gr ∧ p.gr ≤ 9 ∧ p.fs.length ≤ 800 then some (if p.gr = 9 then (4, p) else (0, { p with gr := p.gr + 1, fs := ⟨[], [], p.gr + 1, at_⟩ :: p.fs })) else none
def qh2 (p : PS) : Option (Int × PS) :=
 match p.fs with
 | [] => none
 | [_] => some (10, p)
 | f :: f2 :: fs => if 0 ≤ f.f2 ∧ f.f2 < 10 ∧ small f fs ∧ small f2 fs then some (0, closed p f f2 fs) else none
def repP (p : PS) (lo hi : Int) : Option (Int × PS) :=
 match p.fs with
 | [] => none
 | f :: fs => if f.f0 ≠ [] ∧ f.f1.length = f.f0.length ∧ small f fs then some (qfb (repS p f fs f.f0.dropLast (f.f0.getLastD z27) f.f1.dropLast (f.f1.getLastD 0) lo hi).sz, repS p f fs f.f0.dropLast (f.f0.getLastD z27) f.f1.dropLast (f.f1.getLastD 0) lo hi) else none
def takeP (p : PS) (kind at_ s0 s1 s2 s3 lo hi e : Int) : Option (Int × PS) :=
 if kind = 0 then (putP p (leaf 1 ⟨s0, s1, s2, s3⟩ 0) 1).map (fun q => grown q 1)
 else if kind = 1 then (putP p (leaf 2 z4 0) 0).map (fun q => (0, q))
 else if kind = 2 then (putP p (leaf 3 z4 0) 0).map (fun q => (0, q))
 else if kind = 3 then openP p at_
 else if kind = 4 then qh2 p
 else if kind = 5 then repP p lo hi
 else if kind = 6 then (if 0 ≤ lo ∧ lo < 10 then (if p.sh.getD lo.toNat false = false then some (11, p) else (putP p (leaf 6 z4 lo) 1).map (fun q => grown q 1)) else none)
 else some (e, p)
theorem putP_some {p q : PS} {r : S27} {n : Int} (h : putP p r n = some q) : ∃ f fs, p.fs = f :: fs ∧ small f fs ∧ q = { p with fs := { f with f0 := f.f0 ++ [r], f1 := f.f1 ++ [n] } :: fs } := by
 unfold putP at h
 split at h
 ·cases h
 ·rename_i f fs hf
  by_cases hs : small f fs
  ·rw [if_pos hs] at h
   exact ⟨f, fs, hf, hs, (Option.some.inj h).symm⟩
  ·rw [if_neg hs] at h
   cases h
theorem qgu (base g : Nat) (p q : PS) (k : Int) (s : S24) (gr : Int) (n : Int) (hq : putP p (leaf k s gr) n = some q) (W : World) (h : IsP base W g p) :
  Calls Try.prog 34 #[.pointer (some ⟨g, 0, none⟩), .agg #[.int .i64 k, .int .u64 s.f0, .int .u64 s.f1, .int .u64 s.f2, .int .u64 s.f3, .int .i64 0, .int .i64 0, .int .i64 gr, .slice none 0 0], .int .i64 n] W fun e w' => e = .returned (.int .i64 0) ∧ IsP base w' g q ∧ Bel base W w' := by
 obtain ⟨f, fs, hf, hs, rfl⟩ := putP_some hq
 obtain ⟨ok, ho⟩ := h.o
 unfold small at hs
 exact qgt base g p f fs hf (leaf k s gr) (.slice none 0 0) n W ok (fun _ => False) ho (Kd.qfd _ _ _ _ _) (fun _ h => h.elim) (by omega)
theorem open_at (base g : Nat) (p q : PS) (at_ rv : Int) (hq : openP p at_ = some (rv, q)) (W : World) (h : IsP base W g p) :
  Calls Try.prog 36 #[.pointer (some ⟨g, 0, none⟩), .int .i64 at_] W fun e w' => e = .returned (.int .i64 rv) ∧ IsP base w' g q ∧ Bel base W w' := by
 unfold openP at hq
 by_cases hg : 0 ≤ p.gr ∧ p.gr ≤ 9 ∧ p.fs.length ≤ 800
 ·rw [if_pos hg] at hq
  have := qj3 base g p at_ W h ⟨hg.1, hg.2.1⟩ (by omega)
  by_cases h9 : p.gr = 9
  ·rw [if_pos h9] at hq
   cases hq
   rw [if_pos h9, if_pos h9] at this
   exact this
  ·rw [if_neg h9] at hq
   cases hq
   rw [if_neg h9, if_neg h9] at this
   exact this
 ·rw [if_neg hg] at hq
  cases hq
set_option maxHeartbeats 1000000 in
theorem close_one (base g : Nat) (p : PS) (f : S59) (hf : p.fs = [f]) (W : World) (h : IsP base W g p) :
  Calls Try.prog 37 #[.pointer (some ⟨g, 0, none⟩)] W fun e w' => e = .returned (.int .i64 10) ∧ IsP base w' g p ∧ Bel base W w' := by
 have HI := qa0.mk h
 obtain ⟨hl10, hbg, hbW, v, rs, ok, hg, hR, hS⟩ := h
 have hlen := hS.len
 rw [hf] at hlen
 obtain ⟨Av, cv, rfl⟩ := Kd.qdb hR
 have hrl : rs.reverse.length = 1 := by rw [List.length_reverse]; exact hlen
 have hg0 : W.cell? ⟨g, 0, none⟩ = some (.slice Av 1 cv) := by rw [← hrl]; exact (qa2 hg 0).trans rfl
 clear hg hR hS hlen hrl hl10 hbg hbW
 go_enter Try.func37, Try.ntmps37
 go_wp2
 go_ret
 exact ⟨rfl, HI.out, Bel.refl _ _⟩
theorem close_at (base g : Nat) (p q : PS) (rv : Int) (hq : qh2 p = some (rv, q)) (W : World) (h : IsP base W g p) :
  Calls Try.prog 37 #[.pointer (some ⟨g, 0, none⟩)] W fun e w' => e = .returned (.int .i64 rv) ∧ IsP base w' g q ∧ Bel base W w' := by
 unfold qh2 at hq
 split at hq
 ·cases hq
 ·rename_i f hf
  cases hq
  exact close_one base g p f hf W h
 ·rename_i f f2 fs hf
  by_cases hs : 0 ≤ f.f2 ∧ f.f2 < 10 ∧ small f fs ∧ small f2 fs
  ·rw [if_pos hs] at hq
   cases hq
   unfold small at hs
   exact qim base g p f f2 fs hf W h ⟨hs.1, hs.2.1⟩ (by omega)
  ·rw [if_neg hs] at hq
   cases hq
theorem rep_at (base g : Nat) (p q : PS) (lo hi rv : Int) (hq : repP p lo hi = some (rv, q)) (W : World) (h : IsP base W g p) :
  Calls Try.prog 38 #[.pointer (some ⟨g, 0, none⟩), .int .i64 lo, .int .i64 hi] W fun e w' => e = .returned (.int .i64 rv) ∧ IsP base w' g q ∧ Bel base W w' := by
 unfold repP at hq
 split at hq
 ·cases hq
 ·rename_i f fs hf
  by_cases hs : f.f0 ≠ [] ∧ f.f1.length = f.f0.length ∧ small f fs
  ·rw [if_pos hs] at hq
   cases hq
   obtain ⟨h1, h2, h3⟩ := hs
   unfold small at h3
   have hne : f.f1 ≠ [] := fun e => h1 (List.length_eq_zero_iff.1 (by rw [← h2, e]; rfl))
   have e0 : f.f0 = f.f0.dropLast ++ [f.f0.getLastD z27] := by
    rw [List.getLastD_eq_getLast?, List.getLast?_eq_some_getLast h1]
    exact (List.dropLast_concat_getLast h1).symm
   have e1 : f.f1 = f.f1.dropLast ++ [f.f1.getLastD 0] := by
    rw [List.getLastD_eq_getLast?, List.getLast?_eq_some_getLast hne]
    exact (List.dropLast_concat_getLast hne).symm
   exact qhy base g p f fs hf f.f0.dropLast _ f.f1.dropLast _ e0 e1 (by rw [List.length_dropLast, List.length_dropLast, h2]) lo hi W h (by rw [List.length_dropLast]; omega)
  ·rw [if_neg hs] at hq
   cases hq
set_option maxHeartbeats 2000000 in
theorem take_byte (base g : Nat) (p q : PS) (at_ s0 s1 s2 s3 lo hi e rv : Int) (q1 : PS) (hq : putP p (leaf 1 ⟨s0, s1, s2, s3⟩ 0) 1 = some q1) (hrv : grown q1 1 = (rv, q)) (W : World) (h : IsP base W g p) :
  Calls Try.prog 26 #[.pointer (some ⟨g, 0, none⟩), .agg #[.int .i64 0, .int .i64 at_, .int .u64 s0, .int .u64 s1, .int .u64 s2, .int .u64 s3, .int .i64 lo, .int .i64 hi, .int .i64 e]] W fun e' w' => e' = .returned (.int .i64 rv) ∧ IsP base w' g q ∧ Bel base W w' := by
 have HI := qa0.mk h
 clear h
 unfold grown qfb at hrv
 simp only [Prod.mk.injEq] at hrv
 obtain ⟨hrv, rfl⟩ := hrv
 have HQ := qa0.mk hq
 have HRV := qa0.mk hrv
 clear hq hrv
 go_enter Try.func26, Try.ntmps26
 go_wp2_with (first | ((with_reducible refine qb7 (N := 3) rfl ?_); refine qbb ?hg (N := 3) ?hd (cs := #[.int .i64 0, .int .i64 at_, .int .u64 s0, .int .u64 s1, .int .u64 s2, .int .u64 s3, .int .i64 lo, .int .i64 hi, .int .i64 e]) (t := 67) ?hr ?_; (case hd => rfl); (case hg => rfl); (case hr => first | (go_simp; done) | (go_simp; rfl)); intro gb hgb w1 hbox hb1; have hx0 : w1.cell? ⟨gb, 0, none⟩ = some (.int .i64 0) := (qa2 hbox 0).trans rfl; have hx1 : w1.cell? ⟨gb, 1, none⟩ = some (.int .i64 at_) := (qa2 hbox 1).trans rfl; have hx2 : w1.cell? ⟨gb, 2, none⟩ = some (.int .u64 s0) := (qa2 hbox 2).trans rfl; have hx3 : w1.cell? ⟨gb, 3, none⟩ = some (.int .u64 s1) := (qa2 hbox 3).trans rfl; have hx4 : w1.cell? ⟨gb, 4, none⟩ = some (.int .u64 s2) := (qa2 hbox 4).trans rfl; have hx5 : w1.cell? ⟨gb, 5, none⟩ = some (.int .u64 s3) := (qa2 hbox 5).trans rfl; have hx6 : w1.cell? ⟨gb, 6, none⟩ = some (.int .i64 lo) := (qa2 hbox 6).trans rfl; have hx7 : w1.cell? ⟨gb, 7, none⟩ = some (.int .i64 hi) := (qa2 hbox 7).trans rfl; have hx8 : w1.cell? ⟨gb, 8, none⟩ = some (.int .i64 e) := (qa2 hbox 8).trans rfl; have HI1 := qa0.mk (HI.out.below hb1); have HB1 := qa0.mk (Bel.of_below hb1 HI.out.2.2.1); clear hbox hb1 hgb) | (go_at_call 34; refine (qgu base g p q1 1 ⟨s0, s1, s2, s3⟩ 0 1 HQ.out _ HI1.out).mono ?_; rintro e2 w2 ⟨rfl, hI2, hB2⟩; have HI2 := qa0.mk hI2; have HB2 := qa0.mk hB2; clear hI2 hB2) | (go_at_call 35; refine (qe2 base g q1 1 _ HI2.out rv HRV.out).mono ?_; rintro e3 w3 ⟨rfl, hI3, hB3⟩; have HI3 := qa0.mk hI3; have HB3 := qa0.mk hB3; clear hI3 hB3))
 go_ret
 exact ⟨rfl, HI3.out, (HB1.out.trans HB2.out).trans HB3.out⟩
set_option maxHeartbeats 2000000 in
theorem take_bol (base g : Nat) (p q : PS) (at_ s0 s1 s2 s3 lo hi e rv : Int) (hq : putP p (leaf 2 z4 0) 0 = some q) (hrv : rv = 0) (W : World) (h : IsP base W g p) :
  Calls Try.prog 26 #[.pointer (some ⟨g, 0, none⟩), .agg #[.int .i64 1, .int .i64 at_, .int .u64 s0, .int .u64 s1, .int .u64 s2, .int .u64 s3, .int .i64 lo, .int .i64 hi, .int .i64 e]] W fun e' w' => e' = .returned (.int .i64 rv) ∧ IsP base w' g q ∧ Bel base W w' := by
 have HI := qa0.mk h
 clear h
 subst hrv
 have HQ := qa0.mk hq
 clear hq
 go_enter Try.func26, Try.ntmps26
 go_wp2_with (first | ((with_reducible refine qb7 (N := 3) rfl ?_); refine qbb ?hg (N := 3) ?hd (cs := #[.int .i64 1, .int .i64 at_, .int .u64 s0, .int .u64 s1, .int .u64 s2, .int .u64 s3, .int .i64 lo, .int .i64 hi, .int .i64 e]) (t := 67) ?hr ?_; (case hd => rfl); (case hg => rfl); (case hr => first | (go_simp; done) | (go_simp; rfl)); intro gb hgb w1 hbox hb1; have hx0 : w1.cell? ⟨gb, 0, none⟩ = some (.int .i64 1) := (qa2 hbox 0).trans rfl; have hx1 : w1.cell? ⟨gb, 1, none⟩ = some (.int .i64 at_) := (qa2 hbox 1).trans rfl; have hx2 : w1.cell? ⟨gb, 2, none⟩ = some (.int .u64 s0) := (qa2 hbox 2).trans rfl; have hx3 : w1.cell? ⟨gb, 3, none⟩ = some (.int .u64 s1) := (qa2 hbox 3).trans rfl; have hx4 : w1.cell? ⟨gb, 4, none⟩ = some (.int .u64 s2) := (qa2 hbox 4).trans rfl; have hx5 : w1.cell? ⟨gb, 5, none⟩ = some (.int .u64 s3) := (qa2 hbox 5).trans rfl; have hx6 : w1.cell? ⟨gb, 6, none⟩ = some (.int .i64 lo) := (qa2 hbox 6).trans rfl; have hx7 : w1.cell? ⟨gb, 7, none⟩ = some (.int .i64 hi) := (qa2 hbox 7).trans rfl; have hx8 : w1.cell? ⟨gb, 8, none⟩ = some (.int .i64 e) := (qa2 hbox 8).trans rfl; have HI1 := qa0.mk (HI.out.below hb1); have HB1 := qa0.mk (Bel.of_below hb1 HI.out.2.2.1); clear hbox hb1 hgb) | (go_at_call 34; refine (qgu base g p q 2 z4 0 0 HQ.out _ HI1.out).mono ?_; rintro e2 w2 ⟨rfl, hI2, hB2⟩; have HI2 := qa0.mk hI2; have HB2 := qa0.mk hB2; clear hI2 hB2))
 go_ret
 exact ⟨rfl, HI2.out, HB1.out.trans HB2.out⟩
set_option maxHeartbeats 2000000 in
theorem take_eol (base g : Nat) (p q : PS) (at_ s0 s1 s2 s3 lo hi e rv : Int) (hq : putP p (leaf 3 z4 0) 0 = some q) (hrv : rv = 0) (W : World) (h : IsP base W g p) :
  Calls Try.prog 26 #[.pointer (some ⟨g, 0, none⟩), .agg #[.int .i64 2, .int .i64 at_, .int .u64 s0, .int .u64 s1, .int .u64 s2, .int .u64 s3, .int .i64 lo, .int .i64 hi, .int .i64 e]] W fun e' w' => e' = .returned (.int .i64 rv) ∧ IsP base w' g q ∧ Bel base W w' := by
 have HI := qa0.mk h
 clear h
 subst hrv
 have HQ := qa0.mk hq
 clear hq
 go_enter Try.func26, Try.ntmps26
 go_wp2_with (first | ((with_reducible refine qb7 (N := 3) rfl ?_); refine qbb ?hg (N := 3) ?hd (cs := #[.int .i64 2, .int .i64 at_, .int .u64 s0, .int .u64 s1, .int .u64 s2, .int .u64 s3, .int .i64 lo, .int .i64 hi, .int .i64 e]) (t := 67) ?hr ?_; (case hd => rfl); (case hg => rfl); (case hr => first | (go_simp; done) | (go_simp; rfl)); intro gb hgb w1 hbox hb1; have hx0 : w1.cell? ⟨gb, 0, none⟩ = some (.int .i64 2) := (qa2 hbox 0).trans rfl; have hx1 : w1.cell? ⟨gb, 1, none⟩ = some (.int .i64 at_) := (qa2 hbox 1).trans rfl; have hx2 : w1.cell? ⟨gb, 2, none⟩ = some (.int .u64 s0) := (qa2 hbox 2).trans rfl; have hx3 : w1.cell? ⟨gb, 3, none⟩ = some (.int .u64 s1) := (qa2 hbox 3).trans rfl; have hx4 : w1.cell? ⟨gb, 4, none⟩ = some (.int .u64 s2) := (qa2 hbox 4).trans rfl; have hx5 : w1.cell? ⟨gb, 5, none⟩ = some (.int .u64 s3) := (qa2 hbox 5).trans rfl; have hx6 : w1.cell? ⟨gb, 6, none⟩ = some (.int .i64 lo) := (qa2 hbox 6).trans rfl; have hx7 : w1.cell? ⟨gb, 7, none⟩ = some (.int .i64 hi) := (qa2 hbox 7).trans rfl; have hx8 : w1.cell? ⟨gb, 8, none⟩ = some (.int .i64 e) := (qa2 hbox 8).trans rfl; have HI1 := qa0.mk (HI.out.below hb1); have HB1 := qa0.mk (Bel.of_below hb1 HI.out.2.2.1); clear hbox hb1 hgb) | (go_at_call 34; refine (qgu base g p q 3 z4 0 0 HQ.out _ HI1.out).mono ?_; rintro e2 w2 ⟨rfl, hI2, hB2⟩; have HI2 := qa0.mk hI2; have HB2 := qa0.mk hB2; clear hI2 hB2))
 go_ret
 exact ⟨rfl, HI2.out, HB1.out.trans HB2.out⟩
set_option maxHeartbeats 2000000 in
theorem take_open (base g : Nat) (p q : PS) (at_ s0 s1 s2 s3 lo hi e rv : Int) (hq : openP p at_ = some (rv, q)) (W : World) (h : IsP base W g p) :
  Calls Try.prog 26 #[.pointer (some ⟨g, 0, none⟩), .agg #[.int .i64 3, .int .i64 at_, .int .u64 s0, .int .u64 s1, .int .u64 s2, .int .u64 s3, .int .i64 lo, .int .i64 hi, .int .i64 e]] W fun e' w' => e' = .returned (.int .i64 rv) ∧ IsP base w' g q ∧ Bel base W w' := by
 have HI := qa0.mk h
 clear h
 have HQ := qa0.mk hq
 clear hq
 go_enter Try.func26, Try.ntmps26
 go_wp2_with (first | ((with_reducible refine qb7 (N := 3) rfl ?_); refine qbb ?hg (N := 3) ?hd (cs := #[.int .i64 3, .int .i64 at_, .int .u64 s0, .int .u64 s1, .int .u64 s2, .int .u64 s3, .int .i64 lo, .int .i64 hi, .int .i64 e]) (t := 67) ?hr ?_; (case hd => rfl); (case hg => rfl); (case hr => first | (go_simp; done) | (go_simp; rfl)); intro gb hgb w1 hbox hb1; have hx0 : w1.cell? ⟨gb, 0, none⟩ = some (.int .i64 3) := (qa2 hbox 0).trans rfl; have hx1 : w1.cell? ⟨gb, 1, none⟩ = some (.int .i64 at_) := (qa2 hbox 1).trans rfl; have hx2 : w1.cell? ⟨gb, 2, none⟩ = some (.int .u64 s0) := (qa2 hbox 2).trans rfl; have hx3 : w1.cell? ⟨gb, 3, none⟩ = some (.int .u64 s1) := (qa2 hbox 3).trans rfl; have hx4 : w1.cell? ⟨gb, 4, none⟩ = some (.int .u64 s2) := (qa2 hbox 4).trans rfl; have hx5 : w1.cell? ⟨gb, 5, none⟩ = some (.int .u64 s3) := (qa2 hbox 5).trans rfl; have hx6 : w1.cell? ⟨gb, 6, none⟩ = some (.int .i64 lo) := (qa2 hbox 6).trans rfl; have hx7 : w1.cell? ⟨gb, 7, none⟩ = some (.int .i64 hi) := (qa2 hbox 7).trans rfl; have hx8 : w1.cell? ⟨gb, 8, none⟩ = some (.int .i64 e) := (qa2 hbox 8).trans rfl; have HI1 := qa0.mk (HI.out.below hb1); have HB1 := qa0.mk (Bel.of_below hb1 HI.out.2.2.1); clear hbox hb1 hgb) | (go_at_call 36; refine (open_at base g p q at_ rv HQ.out _ HI1.out).mono ?_; rintro e2 w2 ⟨rfl, hI2, hB2⟩; have HI2 := qa0.mk hI2; have HB2 := qa0.mk hB2; clear hI2 hB2))
 go_ret
 exact ⟨rfl, HI2.out, HB1.out.trans HB2.out⟩
set_option maxHeartbeats 2000000 in
theorem take_shut (base g : Nat) (p q : PS) (at_ s0 s1 s2 s3 lo hi e rv : Int) (hq : qh2 p = some (rv, q)) (W : World) (h : IsP base W g p) :
  Calls Try.prog 26 #[.pointer (some ⟨g, 0, none⟩), .agg #[.int .i64 4, .int .i64 at_, .int .u64 s0, .int .u64 s1, .int .u64 s2, .int .u64 s3, .int .i64 lo, .int .i64 hi, .int .i64 e]] W fun e' w' => e' = .returned (.int .i64 rv) ∧ IsP base w' g q ∧ Bel base W w' := by
 have HI := qa0.mk h
 clear h
 have HQ := qa0.mk hq
 clear hq
 go_enter Try.func26, Try.ntmps26
 go_wp2_with (first | ((with_reducible refine qb7 (N := 3) rfl ?_); refine qbb ?hg (N := 3) ?hd (cs := #[.int .i64 4, .int .i64 at_, .int .u64 s0, .int .u64 s1, .int .u64 s2, .int .u64 s3, .int .i64 lo, .int .i64 hi, .int .i64 e]) (t := 67) ?hr ?_; (case hd => rfl); (case hg => rfl); (case hr => first | (go_simp; done) | (go_simp; rfl)); intro gb hgb w1 hbox hb1; have hx0 : w1.cell? ⟨gb, 0, none⟩ = some (.int .i64 4) := (qa2 hbox 0).trans rfl; have hx1 : w1.cell? ⟨gb, 1, none⟩ = some (.int .i64 at_) := (qa2 hbox 1).trans rfl; have hx2 : w1.cell? ⟨gb, 2, none⟩ = some (.int .u64 s0) := (qa2 hbox 2).trans rfl; have hx3 : w1.cell? ⟨gb, 3, none⟩ = some (.int .u64 s1) := (qa2 hbox 3).trans rfl; have hx4 : w1.cell? ⟨gb, 4, none⟩ = some (.int .u64 s2) := (qa2 hbox 4).trans rfl; have hx5 : w1.cell? ⟨gb, 5, none⟩ = some (.int .u64 s3) := (qa2 hbox 5).trans rfl; have hx6 : w1.cell? ⟨gb, 6, none⟩ = some (.int .i64 lo) := (qa2 hbox 6).trans rfl; have hx7 : w1.cell? ⟨gb, 7, none⟩ = some (.int .i64 hi) := (qa2 hbox 7).trans rfl; have hx8 : w1.cell? ⟨gb, 8, none⟩ = some (.int .i64 e) := (qa2 hbox 8).trans rfl; have HI1 := qa0.mk (HI.out.below hb1); have HB1 := qa0.mk (Bel.of_below hb1 HI.out.2.2.1); clear hbox hb1 hgb) | (go_at_call 37; refine (close_at base g p q rv HQ.out _ HI1.out).mono ?_; rintro e2 w2 ⟨rfl, hI2, hB2⟩; have HI2 := qa0.mk hI2; have HB2 := qa0.mk hB2; clear hI2 hB2))
 go_ret
 exact ⟨rfl, HI2.out, HB1.out.trans HB2.out⟩
set_option maxHeartbeats 2000000 in
theorem take_rep (base g : Nat) (p q : PS) (at_ s0 s1 s2 s3 lo hi e rv : Int) (hq : repP p lo hi = some (rv, q)) (W : World) (h : IsP base W g p) :
  Calls Try.prog 26 #[.pointer (some ⟨g, 0, none⟩), .agg #[.int .i64 5, .int .i64 at_, .int .u64 s0, .int .u64 s1, .int .u64 s2, .int .u64 s3, .int .i64 lo, .int .i64 hi, .int .i64 e]] W fun e' w' => e' = .returned (.int .i64 rv) ∧ IsP base w' g q ∧ Bel base W w' := by
 have HI := qa0.mk h
 clear h
 have HQ := qa0.mk hq
 clear hq
 go_enter Try.func26, Try.ntmps26
 go_wp2_with (first | ((with_reducible refine qb7 (N := 3) rfl ?_); refine qbb ?hg (N := 3) ?hd (cs := #[.int .i64 5, .int .i64 at_, .int .u64 s0, .int .u64 s1, .int .u64 s2, .int .u64 s3, .int .i64 lo, .int .i64 hi, .int .i64 e]) (t := 67) ?hr ?_; (case hd => rfl); (case hg => rfl); (case hr => first | (go_simp; done) | (go_simp; rfl)); intro gb hgb w1 hbox hb1; have hx0 : w1.cell? ⟨gb, 0, none⟩ = some (.int .i64 5) := (qa2 hbox 0).trans rfl; have hx1 : w1.cell? ⟨gb, 1, none⟩ = some (.int .i64 at_) := (qa2 hbox 1).trans rfl; have hx2 : w1.cell? ⟨gb, 2, none⟩ = some (.int .u64 s0) := (qa2 hbox 2).trans rfl; have hx3 : w1.cell? ⟨gb, 3, none⟩ = some (.int .u64 s1) := (qa2 hbox 3).trans rfl; have hx4 : w1.cell? ⟨gb, 4, none⟩ = some (.int .u64 s2) := (qa2 hbox 4).trans rfl; have hx5 : w1.cell? ⟨gb, 5, none⟩ = some (.int .u64 s3) := (qa2 hbox 5).trans rfl; have hx6 : w1.cell? ⟨gb, 6, none⟩ = some (.int .i64 lo) := (qa2 hbox 6).trans rfl; have hx7 : w1.cell? ⟨gb, 7, none⟩ = some (.int .i64 hi) := (qa2 hbox 7).trans rfl; have hx8 : w1.cell? ⟨gb, 8, none⟩ = some (.int .i64 e) := (qa2 hbox 8).trans rfl; have HI1 := qa0.mk (HI.out.below hb1); have HB1 := qa0.mk (Bel.of_below hb1 HI.out.2.2.1); clear hbox hb1 hgb) | (go_at_call 38; refine (rep_at base g p q lo hi rv HQ.out _ HI1.out).mono ?_; rintro e2 w2 ⟨rfl, hI2, hB2⟩; have HI2 := qa0.mk hI2; have HB2 := qa0.mk hB2; clear hI2 hB2))
 go_ret
 exact ⟨rfl, HI2.out, HB1.out.trans HB2.out⟩
set_option maxHeartbeats 2000000 in
theorem take_back (base g : Nat) (p q : PS) (at_ s0 s1 s2 s3 lo hi e rv : Int) (i : Nat) (hlo : lo = (i : Int)) (hi10 : i < 10) (hsh : p.sh.getD i false = true) (q1 : PS) (hq : putP p (leaf 6 z4 lo) 1 = some q1) (hrv : grown q1 1 = (rv, q)) (W : World) (h : IsP base W g p) :
  Calls Try.prog 26 #[.pointer (some ⟨g, 0, none⟩), .agg #[.int .i64 6, .int .i64 at_, .int .u64 s0, .int .u64 s1, .int .u64 s2, .int .u64 s3, .int .i64 lo, .int .i64 hi, .int .i64 e]] W fun e' w' => e' = .returned (.int .i64 rv) ∧ IsP base w' g q ∧ Bel base W w' := by
 have HI := qa0.mk h
 clear h
 unfold grown qfb at hrv
 simp only [Prod.mk.injEq] at hrv
 obtain ⟨hrv, rfl⟩ := hrv
 have HQ := qa0.mk hq
 have HRV := qa0.mk hrv
 clear hq hrv
 subst hlo
 have p0 : (0 ≤ (i : Int)) = True := eq_true (by omega)
 have p1 : ((i : Int) < 10) = True := eq_true (by omega)
 have p2 : (i < 10) = True := eq_true hi10
 have HSH := qa0.mk (And.intro hsh hi10)
 clear hsh hi10
 go_enter Try.func26, Try.ntmps26
 go_wp2_with (first | ((with_reducible refine qb7 (N := 3) rfl ?_); refine qbb ?hg (N := 3) ?hd (cs := #[.int .i64 6, .int .i64 at_, .int .u64 s0, .int .u64 s1, .int .u64 s2, .int .u64 s3, .int .i64 (i : Int), .int .i64 hi, .int .i64 e]) (t := 67) ?hr ?_; (case hd => rfl); (case hg => rfl); (case hr => first | (go_simp; done) | (go_simp; rfl)); intro gb hgb w1 hbox hb1; have hx0 : w1.cell? ⟨gb, 0, none⟩ = some (.int .i64 6) := (qa2 hbox 0).trans rfl; have hx1 : w1.cell? ⟨gb, 1, none⟩ = some (.int .i64 at_) := (qa2 hbox 1).trans rfl; have hx2 : w1.cell? ⟨gb, 2, none⟩ = some (.int .u64 s0) := (qa2 hbox 2).trans rfl; have hx3 : w1.cell? ⟨gb, 3, none⟩ = some (.int .u64 s1) := (qa2 hbox 3).trans rfl; have hx4 : w1.cell? ⟨gb, 4, none⟩ = some (.int .u64 s2) := (qa2 hbox 4).trans rfl; have hx5 : w1.cell? ⟨gb, 5, none⟩ = some (.int .u64 s3) := (qa2 hbox 5).trans rfl; have hx6 : w1.cell? ⟨gb, 6, none⟩ = some (.int .i64 (i : Int)) := (qa2 hbox 6).trans rfl; have hx7 : w1.cell? ⟨gb, 7, none⟩ = some (.int .i64 hi) := (qa2 hbox 7).trans rfl; have hx8 : w1.cell? ⟨gb, 8, none⟩ = some (.int .i64 e) := (qa2 hbox 8).trans rfl; have hsc : w1.cell? ⟨g, 2 + i, none⟩ = some (.bool true) := (by have h_ := (HI.out.below hb1).cells.2.2.2.1 i HSH.out.2; rw [HSH.out.1] at h_; exact h_); have HI1 := qa0.mk (HI.out.below hb1); have HB1 := qa0.mk (Bel.of_below hb1 HI.out.2.2.1); clear hbox hb1 hgb) | (go_at_call 34; refine (qgu base g p q1 6 z4 (i : Int) 1 HQ.out _ HI1.out).mono ?_; rintro e2 w2 ⟨rfl, hI2, hB2⟩; have HI2 := qa0.mk hI2; have HB2 := qa0.mk hB2; clear hI2 hB2) | (go_at_call 35; refine (qe2 base g q1 1 _ HI2.out rv HRV.out).mono ?_; rintro e3 w3 ⟨rfl, hI3, hB3⟩; have HI3 := qa0.mk hI3; have HB3 := qa0.mk hB3; clear hI3 hB3))
 go_region_law (fail)
 (go_wp2_with (first | (go_at_call 34; refine (qgu base g p q1 6 z4 (i : Int) 1 HQ.out _ (HI1.out.below (Below.refl _ _).drew)).mono ?_; rintro e2 w2 ⟨rfl, hI2, hB2⟩; have HI2 := qa0.mk hI2; have HB2 := qa0.mk hB2; clear hI2 hB2) | (go_at_call 35; refine (qe2 base g q1 1 _ HI2.out rv HRV.out).mono ?_; rintro e3 w3 ⟨rfl, hI3, hB3⟩; have HI3 := qa0.mk hI3; have HB3 := qa0.mk hB3; clear hI3 hB3)))
 go_ret
 exact ⟨rfl, HI3.out, (HB1.out.drew.trans HB2.out).trans HB3.out⟩
set_option maxHeartbeats 2000000 in
theorem take_nobk (base g : Nat) (p q : PS) (at_ s0 s1 s2 s3 lo hi e rv : Int) (i : Nat) (hlo : lo = (i : Int)) (hi10 : i < 10) (hsh : p.sh.getD i false = false) (hq : q = p) (hrv : rv = 11) (W : World) (h : IsP base W g p) :
  Calls Try.prog 26 #[.pointer (some ⟨g, 0, none⟩), .agg #[.int .i64 6, .int .i64 at_, .int .u64 s0, .int .u64 s1, .int .u64 s2, .int .u64 s3, .int .i64 lo, .int .i64 hi, .int .i64 e]] W fun e' w' => e' = .returned (.int .i64 rv) ∧ IsP base w' g q ∧ Bel base W w' := by
 have HI := qa0.mk h
 clear h
 subst hq hrv hlo
 have p0 : (0 ≤ (i : Int)) = True := eq_true (by omega)
 have p1 : ((i : Int) < 10) = True := eq_true (by omega)
 have p2 : (i < 10) = True := eq_true hi10
 have HSH := qa0.mk (And.intro hsh hi10)
 clear hsh hi10
 go_enter Try.func26, Try.ntmps26
 go_wp2_with (first | ((with_reducible refine qb7 (N := 3) rfl ?_); refine qbb ?hg (N := 3) ?hd (cs := #[.int .i64 6, .int .i64 at_, .int .u64 s0, .int .u64 s1, .int .u64 s2, .int .u64 s3, .int .i64 (i : Int), .int .i64 hi, .int .i64 e]) (t := 67) ?hr ?_; (case hd => rfl); (case hg => rfl); (case hr => first | (go_simp; done) | (go_simp; rfl)); intro gb hgb w1 hbox hb1; have hx0 : w1.cell? ⟨gb, 0, none⟩ = some (.int .i64 6) := (qa2 hbox 0).trans rfl; have hx1 : w1.cell? ⟨gb, 1, none⟩ = some (.int .i64 at_) := (qa2 hbox 1).trans rfl; have hx2 : w1.cell? ⟨gb, 2, none⟩ = some (.int .u64 s0) := (qa2 hbox 2).trans rfl; have hx3 : w1.cell? ⟨gb, 3, none⟩ = some (.int .u64 s1) := (qa2 hbox 3).trans rfl; have hx4 : w1.cell? ⟨gb, 4, none⟩ = some (.int .u64 s2) := (qa2 hbox 4).trans rfl; have hx5 : w1.cell? ⟨gb, 5, none⟩ = some (.int .u64 s3) := (qa2 hbox 5).trans rfl; have hx6 : w1.cell? ⟨gb, 6, none⟩ = some (.int .i64 (i : Int)) := (qa2 hbox 6).trans rfl; have hx7 : w1.cell? ⟨gb, 7, none⟩ = some (.int .i64 hi) := (qa2 hbox 7).trans rfl; have hx8 : w1.cell? ⟨gb, 8, none⟩ = some (.int .i64 e) := (qa2 hbox 8).trans rfl; have hsc : w1.cell? ⟨g, 2 + i, none⟩ = some (.bool false) := (by have h_ := (HI.out.below hb1).cells.2.2.2.1 i HSH.out.2; rw [HSH.out.1] at h_; exact h_); have HI1 := qa0.mk (HI.out.below hb1); have HB1 := qa0.mk (Bel.of_below hb1 HI.out.2.2.1); clear hbox hb1 hgb))
 go_region_law (fail)
 try go_wp2
 go_ret
 exact ⟨rfl, HI1.out.below (Below.refl _ _).drew, HB1.out.drew⟩
set_option maxHeartbeats 2000000 in
theorem take_else (base g : Nat) (p q : PS) (kind at_ s0 s1 s2 s3 lo hi e rv : Int) (hk : kind ≠ 0 ∧ kind ≠ 1 ∧ kind ≠ 2 ∧ kind ≠ 3 ∧ kind ≠ 4 ∧ kind ≠ 5 ∧ kind ≠ 6) (hq : q = p) (hrv : e = rv) (W : World) (h : IsP base W g p) :
  Calls Try.prog 26 #[.pointer (some ⟨g, 0, none⟩), .agg #[.int .i64 kind, .int .i64 at_, .int .u64 s0, .int .u64 s1, .int .u64 s2, .int .u64 s3, .int .i64 lo, .int .i64 hi, .int .i64 e]] W fun e' w' => e' = .returned (.int .i64 rv) ∧ IsP base w' g q ∧ Bel base W w' := by
 have HI := qa0.mk h
 clear h
 subst hq hrv
 have k0 : (kind == 0) = false := beq_eq_false_iff_ne.2 (by omega)
 have k1 : (kind == 1) = false := beq_eq_false_iff_ne.2 (by omega)
 have k2 : (kind == 2) = false := beq_eq_false_iff_ne.2 (by omega)
 have k3 : (kind == 3) = false := beq_eq_false_iff_ne.2 (by omega)
 have k4 : (kind == 4) = false := beq_eq_false_iff_ne.2 (by omega)
 have k5 : (kind == 5) = false := beq_eq_false_iff_ne.2 (by omega)
 have k6 : (kind == 6) = false := beq_eq_false_iff_ne.2 (by omega)
 clear hk
 go_enter Try.func26, Try.ntmps26
 go_wp2_with (first | ((with_reducible refine qb7 (N := 3) rfl ?_); refine qbb ?hg (N := 3) ?hd (cs := #[.int .i64 kind, .int .i64 at_, .int .u64 s0, .int .u64 s1, .int .u64 s2, .int .u64 s3, .int .i64 lo, .int .i64 hi, .int .i64 e]) (t := 67) ?hr ?_; (case hd => rfl); (case hg => rfl); (case hr => first | (go_simp; done) | (go_simp; rfl)); intro gb hgb w1 hbox hb1; have hx0 : w1.cell? ⟨gb, 0, none⟩ = some (.int .i64 kind) := (qa2 hbox 0).trans rfl; have hx1 : w1.cell? ⟨gb, 1, none⟩ = some (.int .i64 at_) := (qa2 hbox 1).trans rfl; have hx2 : w1.cell? ⟨gb, 2, none⟩ = some (.int .u64 s0) := (qa2 hbox 2).trans rfl; have hx3 : w1.cell? ⟨gb, 3, none⟩ = some (.int .u64 s1) := (qa2 hbox 3).trans rfl; have hx4 : w1.cell? ⟨gb, 4, none⟩ = some (.int .u64 s2) := (qa2 hbox 4).trans rfl; have hx5 : w1.cell? ⟨gb, 5, none⟩ = some (.int .u64 s3) := (qa2 hbox 5).trans rfl; have hx6 : w1.cell? ⟨gb, 6, none⟩ = some (.int .i64 lo) := (qa2 hbox 6).trans rfl; have hx7 : w1.cell? ⟨gb, 7, none⟩ = some (.int .i64 hi) := (qa2 hbox 7).trans rfl; have hx8 : w1.cell? ⟨gb, 8, none⟩ = some (.int .i64 e) := (qa2 hbox 8).trans rfl; have HI1 := qa0.mk (HI.out.below hb1); have HB1 := qa0.mk (Bel.of_below hb1 HI.out.2.2.1); clear hbox hb1 hgb))
 go_ret
 exact ⟨rfl, HI1.out, HB1.out⟩
theorem qfu (base g : Nat) (p q : PS) (kind at_ s0 s1 s2 s3 lo hi e rv : Int) (hq : takeP p kind at_ s0 s1 s2 s3 lo hi e = some (rv, q)) (W : World) (h : IsP base W g p) :
  Calls Try.prog 26 #[.pointer (some ⟨g, 0, none⟩), .agg #[.int .i64 kind, .int .i64 at_, .int .u64 s0, .int .u64 s1, .int .u64 s2, .int .u64 s3, .int .i64 lo, .int .i64 hi, .int .i64 e]] W fun e' w' => e' = .returned (.int .i64 rv) ∧ IsP base w' g q ∧ Bel base W w' := by
 unfold takeP at hq
 by_cases k0 : kind = 0
 ·rw [if_pos k0] at hq
  subst k0
  obtain ⟨q1, h1, h2⟩ := Option.map_eq_some_iff.1 hq
  exact take_byte base g p q at_ s0 s1 s2 s3 lo hi e rv q1 h1 h2 W h
 rw [if_neg k0] at hq
 by_cases k1 : kind = 1
 ·rw [if_pos k1] at hq
  subst k1
  obtain ⟨q1, h1, h2⟩ := Option.map_eq_some_iff.1 hq
  cases h2
  exact take_bol base g p q at_ s0 s1 s2 s3 lo hi e 0 h1 rfl W h
 rw [if_neg k1] at hq
 by_cases k2 : kind = 2
 ·rw [if_pos k2] at hq
  subst k2
  obtain ⟨q1, h1, h2⟩ := Option.map_eq_some_iff.1 hq
  cases h2
  exact take_eol base g p q at_ s0 s1 s2 s3 lo hi e 0 h1 rfl W h
 rw [if_neg k2] at hq
 by_cases k3 : kind = 3
 ·rw [if_pos k3] at hq
  subst k3
  exact take_open base g p q at_ s0 s1 s2 s3 lo hi e rv hq W h
 rw [if_neg k3] at hq
 by_cases k4 : kind = 4
 ·rw [if_pos k4] at hq
  subst k4
  exact take_shut base g p q at_ s0 s1 s2 s3 lo hi e rv hq W h
 rw [if_neg k4] at hq
 by_cases k5 : kind = 5
 ·rw [if_pos k5] at hq
  subst k5
  exact take_rep base g p q at_ s0 s1 s2 s3 lo hi e rv hq W h
 rw [if_neg k5] at hq
 by_cases k6 : kind = 6
 ·rw [if_pos k6] at hq
  subst k6
  by_cases hl : 0 ≤ lo ∧ lo < 10
  ·rw [if_pos hl] at hq
   obtain ⟨i, rfl⟩ := Int.eq_ofNat_of_zero_le hl.1
   rw [Int.toNat_natCast] at hq
   cases hb : p.sh.getD i false with
   | false =>
    rw [hb, if_pos rfl] at hq
    cases hq
    exact take_nobk base g p p at_ s0 s1 s2 s3 _ hi e 11 i rfl (by omega) hb rfl rfl W h
   | true =>
    rw [hb, if_neg (by decide)] at hq
    obtain ⟨q1, h1, h2⟩ := Option.map_eq_some_iff.1 hq
    exact take_back base g p q at_ s0 s1 s2 s3 _ hi e rv i rfl (by omega) hb q1 h1 h2 W h
  ·rw [if_neg hl] at hq
   cases hq
 rw [if_neg k6] at hq
 cases hq
 exact take_else base g p p kind at_ s0 s1 s2 s3 lo hi e e ⟨k0, k1, k2, k3, k4, k5, k6⟩ rfl rfl W h
end Go.Proofs.Ytcmipoicnonaeaa.F
end
section
namespace Go.Proofs.Ytcmipoicnonaeaa.F
open Go.RowKit Go.Proofs.YtcmipoicnonaeaaW.PrintWords Go.Proofs.YtcmipoicnonaeaaW.PrintLast Go.Proofs.YtcmipoicnonaeaaW.PrintMore
set_option linter.unusedVariables false
set_option linter.unusedSimpArgs false
def qed (p : PS) (t : Tok) : Option (Int × PS) := takeP p t.k t.a t.s0 t.s1 t.s2 t.s3 t.lo t.hi t.e
def runP : PS → List Tok → Option (Sum (Int × Int) PS)
 | p, [] => some (.inr p)
 | p, t :: ts => (qed p t).bind fun r => if r.1 = 0 then runP r.2 ts else some (.inl (r.1, t.a))
def stP : PS → List Tok → Option PS
 | p, [] => some p
 | p, t :: ts => (qed p t).bind fun r => if r.1 = 0 then stP r.2 ts else none
theorem stP_snoc : ∀ (pre : List Tok) {p q : PS} {x : Tok}, stP p pre = some q → stP p (pre ++ [x]) = (qed q x).bind fun r => if r.1 = 0 then some r.2 else none
 | [], p, q, x, h => by
  cases h
  rfl
 | t :: ts, p, q, x, h => by
  rw [List.cons_append]
  simp only [stP] at h ⊢
  cases ht : qed p t with
  | none => rw [ht] at h; cases h
  | some r =>
   rw [ht] at h
   rw [Option.bind_some] at h ⊢
   by_cases c : r.1 = 0
   ·rw [if_pos c] at h ⊢
    exact stP_snoc ts h
   ·rw [if_neg c] at h
    cases h
theorem qi6 : ∀ (pre : List Tok) {p q : PS} (rest : List Tok), stP p pre = some q → runP p (pre ++ rest) = runP q rest
 | [], p, q, rest, h => by
  cases h
  rfl
 | t :: ts, p, q, rest, h => by
  rw [List.cons_append]
  simp only [stP, runP] at h ⊢
  cases ht : qed p t with
  | none => rw [ht] at h; cases h
  | some r =>
   rw [ht] at h
   rw [Option.bind_some] at h ⊢
   by_cases c : r.1 = 0
   ·rw [if_pos c] at h ⊢
    exact qi6 ts rest h
   ·rw [if_neg c] at h
    cases h
theorem runP_at {p q : PS} {L pre : List Tok} {x : Tok} {res : Sum (Int × Int) PS} (hL : runP p L = some res) (hpx : pre ++ [x] <+: L) (hq : stP p pre = some q) :
  ∃ r, qed q x = some r ∧ (r.1 = 0 → stP p (pre ++ [x]) = some r.2) ∧ (r.1 ≠ 0 → res = .inl (r.1, x.a)) := by
 obtain ⟨rest, rfl⟩ := hpx
 rw [List.append_assoc, qi6 pre _ hq] at hL
 simp only [List.cons_append, List.nil_append, runP] at hL
 cases ht : qed q x with
 | none => rw [ht] at hL; cases hL
 | some r =>
  refine ⟨r, rfl, fun c => ?_, fun c => ?_⟩
  ·rw [stP_snoc pre hq, ht, Option.bind_some, if_pos c]
  ·rw [ht, Option.bind_some, if_neg c] at hL
   exact (Option.some.inj hL).symm
def p0 : PS := ⟨[⟨[], [], 0, 0⟩], 0, List.replicate 10 false, 0⟩
theorem Frn.of_walk {o : Obj} (h : o.isCells = false) : Frn o := by
 rintro c t rfl
 cases h
theorem qej.others {A B : World} (h : qej A B) (hs : A.heap.size ≤ B.heap.size) : KeepsOthers A B := ⟨hs, fun k o hk ho => h k o (Frn.of_walk ho) hk⟩
theorem IsP.turn {base g : Nat} {p : PS} {W : World} {l : Nat} {o o' : Obj} (h : IsP base W g p) (hl : W.heap[l]? = some o) (hc : o.isCells = false) : IsP base (W.putObj l o') g p := by
 have hne : ∀ {k : Nat} {c : Array Value} {t : TypeId}, W.heap[k]? = some (.cells c t (0, 0)) → (W.putObj l o').heap[k]? = W.heap[k]? := fun {k c t} hk => by
  refine World.putObj_heap_other ?_
  rintro rfl
  rw [hk] at hl
  cases hl
  cases hc
 obtain ⟨hl10, h1, h2, v, rs, ok, hg, hR, hS⟩ := h
 refine ⟨hl10, h1, by rw [World.putObj_size]; exact h2, v, rs, _, (hne hg).trans hg, Kd.qbd (Kd.qh8 (Kd.qdc hR) (fun k hk _ => ?_)) (fun _ _ => trivial), hS.bd.step (fun k hk _ => ?_)⟩
 ·obtain ⟨_, _, _, q, _, c, hcc⟩ := hk
  exact hne hcc
 ·obtain ⟨_, _, q, _, c, hcc⟩ := hk
  exact hne hcc
theorem Bel.turn {base : Nat} {A W : World} {l : Nat} {o o' : Obj} (h : Bel base A W) (hb : base ≤ l) (hA : A.heap.size ≤ l) (hl : W.heap[l]? = some o) (hc : o.isCells = false) : Bel base A (W.putObj l o') := by
 have hlt := (Array.getElem?_eq_some_iff.1 hl).1
 refine ⟨h.1.grown (grownBy_putObj' W l o') (by omega) (fun k e => by cases e; exact hb), fun k o ho hk => ?_⟩
 refine (World.putObj_heap_other ?_).trans (h.2 k o ho hk)
 have := qam hk
 omega
theorem isP_new (X : World) : IsP X.heap.size ((X.alloc (.cells #[.slice none 0 0, .slice none 0 0, .int .i64 0, .int .i64 0] 59)).alloc (.cells (Pc (.slice (some ⟨X.heap.size, 0, none⟩) 1 1) p0).toArray 62)) (X.heap.size + 1) p0 := by
 have hrow : kRF.R 59 (X.alloc (.cells #[.slice none 0 0, .slice none 0 0, .int .i64 0, .int .i64 0] 59)) X.heap.size (fun _ => True) (.slice (some ⟨X.heap.size, 0, none⟩) 1 1) [⟨.slice none 0 0, .slice none 0 0, 0, 0⟩] :=
  lit_R kRF X X.heap.size 59 (okp := fun _ => True) (inner := [.slice none 0 0, .slice none 0 0, .int .i64 0, .int .i64 0]) (Reps.front ⟨rfl, ⟨_, _, _, rfl⟩, ⟨_, _, _, rfl⟩⟩ rfl (Reps.none _ _) rfl) (fun _ _ => trivial) trivial (Nat.le_refl _) (by decide)
 refine ⟨rfl, Nat.le_succ _, by simp only [World.size_alloc]; omega, _, [⟨.slice none 0 0, .slice none 0 0, 0, 0⟩], fun _ => True, ?_, Kd.qbg hrow (qa6 (Below.refl _ _) _), ?_⟩
 ·have h := qat (X.alloc (.cells #[.slice none 0 0, .slice none 0 0, .int .i64 0, .int .i64 0] 59)) (.cells (Pc (.slice (some ⟨X.heap.size, 0, none⟩) 1 1) p0).toArray 62)
  rw [World.size_alloc] at h
  exact h
 ·exact ⟨rfl, rfl, fun _ => True, fun _ => False, fun _ h => h, fun _ h => trivial, fun _ _ h => h.elim, Kd.qfd _ _ _ _ _, Kd.qfd _ _ _ _ _, trivial⟩
def zRe (v : Value) (k : Int) : Array Value := #[.int .i64 k, .int .u64 0, .int .u64 0, .int .u64 0, .int .u64 0, .int .i64 0, .int .i64 0, .int .i64 0, v]
def zR : Array Value := zRe (.slice none 0 0) 0
def ends (W : World) (b : Nat) (v : Value) (e a : Int) : World := (((((((((((W).setCell ⟨b, 0, none⟩ (.int .i64 0)).setCell ⟨b, 1, none⟩ (.int .u64 0)).setCell ⟨b, 2, none⟩ (.int .u64 0)).setCell ⟨b, 3, none⟩ (.int .u64 0)).setCell ⟨b, 4, none⟩ (.int .u64 0)).setCell ⟨b, 5, none⟩ (.int .i64 0)).setCell ⟨b, 6, none⟩ (.int .i64 0)).setCell ⟨b, 7, none⟩ (.int .i64 0)).setCell ⟨b, 8, none⟩ v).setCell ⟨b + 1, 0, none⟩ (.int .i64 e)).setCell ⟨b + 1, 1, none⟩ (.int .i64 a)
theorem ends_ {W : World} {b : Nat} {v : Value} {e a : Int} (h2 : W.heap[b]? = some (.cells zR 27 (0, 0))) (h3 : W.heap[b + 1]? = some (.cells #[.int .i64 0, .int .i64 0] 30 (0, 0))) :
  (ends W b v e a).heap[b]? = some (.cells (zRe v 0) 27 (0, 0)) ∧ (ends W b v e a).heap[b + 1]? = some (.cells #[.int .i64 e, .int .i64 a] 30 (0, 0)) ∧ (∀ k, k ≠ b → k ≠ b + 1 → (ends W b v e a).heap[k]? = W.heap[k]?) ∧ Below b W (ends W b v e a) ∧ KeepsOthers W (ends W b v e a) ∧ (ends W b v e a).heap.size = W.heap.size := by
 have hb : b ≠ b + 1 := by omega
 have far : ∀ k, k ≠ b → k ≠ b + 1 → (ends W b v e a).heap[k]? = W.heap[k]? := fun k k1 k2 => by
  unfold ends
  rw [Below.heap_setCell _ _ _ k k2, Below.heap_setCell _ _ _ k k2]
  rw [Below.heap_setCell _ _ _ k k1, Below.heap_setCell _ _ _ k k1, Below.heap_setCell _ _ _ k k1, Below.heap_setCell _ _ _ k k1, Below.heap_setCell _ _ _ k k1, Below.heap_setCell _ _ _ k k1, Below.heap_setCell _ _ _ k k1, Below.heap_setCell _ _ _ k k1, Below.heap_setCell _ _ _ k k1]
 have hs : (ends W b v e a).heap.size = W.heap.size := by simp [ends, World.setCell]
 refine ⟨?_, ?_, far, ?_, ⟨Nat.le_of_eq hs.symm, fun k o hk ho => (far k ?_ ?_).trans hk⟩, hs⟩
 ·refine qaj (qaj ?_ hb _) hb _
  have g0 := qaa h2 0 (.int .i64 0) rfl
  have g1 := qaa g0 1 (.int .u64 0) rfl
  have g2 := qaa g1 2 (.int .u64 0) rfl
  have g3 := qaa g2 3 (.int .u64 0) rfl
  have g4 := qaa g3 4 (.int .u64 0) rfl
  have g5 := qaa g4 5 (.int .i64 0) rfl
  have g6 := qaa g5 6 (.int .i64 0) rfl
  have g7 := qaa g6 7 (.int .i64 0) rfl
  have g8 := qaa g7 8 (v) rfl
  exact g8
 ·have h3' : (W.heap[b + 1]? = some (.cells #[.int .i64 0, .int .i64 0] 30 (0, 0))) := h3
  have f0 := qaj (p := ⟨b, 0, none⟩) h3' (Ne.symm hb) (.int .i64 0)
  have f1 := qaj (p := ⟨b, 1, none⟩) f0 (Ne.symm hb) (.int .u64 0)
  have f2 := qaj (p := ⟨b, 2, none⟩) f1 (Ne.symm hb) (.int .u64 0)
  have f3 := qaj (p := ⟨b, 3, none⟩) f2 (Ne.symm hb) (.int .u64 0)
  have f4 := qaj (p := ⟨b, 4, none⟩) f3 (Ne.symm hb) (.int .u64 0)
  have f5 := qaj (p := ⟨b, 5, none⟩) f4 (Ne.symm hb) (.int .i64 0)
  have f6 := qaj (p := ⟨b, 6, none⟩) f5 (Ne.symm hb) (.int .i64 0)
  have f7 := qaj (p := ⟨b, 7, none⟩) f6 (Ne.symm hb) (.int .i64 0)
  have f8 := qaj (p := ⟨b, 8, none⟩) f7 (Ne.symm hb) (v)
  have f9 := qaa f8 0 (.int .i64 e) rfl
  have f10 := qaa f9 1 (.int .i64 a) rfl
  exact f10
 ·exact (((((((((((Below.refl b W).setCell (p := ⟨b, 0, none⟩) (Nat.le_refl _) _).setCell (p := ⟨b, 1, none⟩) (Nat.le_refl _) _).setCell (p := ⟨b, 2, none⟩) (Nat.le_refl _) _).setCell (p := ⟨b, 3, none⟩) (Nat.le_refl _) _).setCell (p := ⟨b, 4, none⟩) (Nat.le_refl _) _).setCell (p := ⟨b, 5, none⟩) (Nat.le_refl _) _).setCell (p := ⟨b, 6, none⟩) (Nat.le_refl _) _).setCell (p := ⟨b, 7, none⟩) (Nat.le_refl _) _).setCell (p := ⟨b, 8, none⟩) (Nat.le_refl _) _).setCell (p := ⟨b + 1, 0, none⟩) (Nat.le_succ _) _).setCell (p := ⟨b + 1, 1, none⟩) (Nat.le_succ _) _
 ·rintro rfl
  rw [h2] at hk
  cases hk
  cases ho
 ·rintro rfl
  rw [h3] at hk
  cases hk
  cases ho
theorem step_call {P : Program} {ops : Array Oper} {o : Oper} {a : Act} {w : World} {K : Act → World → Prop} {Q : Exit → Act → World → Prop} {E : Prop} {R : Ending → World → Prop} (hg : o.guard = none) (f : FuncId) (args : Array Value)
  (hrun : (execOp a.eval o).run P w = .ok (.enter f args) w) (h : Calls P f args w R) (hK : ∀ e w', R e w' → ∃ v, e = .returned v ∧ K (a.put o.dst v) w') :
  if Region.wanted o (yielded ops a.tmps) = true then Oper.wp P o a w K Q else E := by
 have hw : Region.wanted o (yielded ops a.tmps) = true := by simp [Region.wanted, hg]
 rw [if_pos hw]
 unfold Oper.wp
 rw [hrun, Oper.upon_enter]
 refine h.mono ?_
 intro e w' hR
 obtain ⟨v, rfl, hk⟩ := hK e w' hR
 exact hk
theorem wpIn_quit {F : Fence} {n : Nat} {P : Program} {c : Code} {K : Act → World → Prop} {X : Exit → Act → World → Prop} {a : Act} {w : World} (h : c.wpIn F n P (Exit.then K (fun _ _ _ => False)) a w) : c.wpIn F n P (Exit.then K X) a w :=
 wpIn_mono h (by intro e a w h; cases e <;> first | exact h | exact h.elim)
end Go.Proofs.Ytcmipoicnonaeaa.F
end
