/- Texts of this claim, 17 of 29: F36, F37. -/
import Derived.Deep.RegionLaw
import Derived.Test.YtcmipoicnonaeaaKS7
import Derived.Test.YtcmipoicnonaeaaKS16
section
namespace Go.Proofs.Ytcmipoicnonaeaa.F
open Go.RowKit Go.Proofs.YtcmipoicnonaeaaW.PrintWords Go.Proofs.YtcmipoicnonaeaaW.PrintLast Go.Proofs.YtcmipoicnonaeaaW.PrintMore
set_option linter.unusedVariables false
set_option linter.unusedSimpArgs false
theorem open_done {base g : Nat} {W w1 : World} {p : PS} {v v1 : Value} {rs : List RF} {ok : Nat → Prop} {at_ : Int} (hl : p.sh.length = 10) (hbg : base ≤ g) (hbW : base ≤ W.heap.size)
    (hg : W.heap[g]? = some (.cells (Pc v p).toArray 62 (0, 0))) (hR : kRF.R 59 W base (fun _ => True) v rs.reverse) (hS : Stack base W rs p.fs ok)
    (hR1 : kRF.R 59 w1 base (fun _ => True) v1 (rs.reverse ++ [⟨.slice none 0 0, .slice none 0 0, p.gr, at_⟩])) (hg1 : W.grownBy w1 v.ownBlock) :
    IsP base (w1.setCell ⟨g, 0, none⟩ v1) g { p with fs := ⟨[], [], p.gr, at_⟩ :: p.fs } ∧ qej W (w1.setCell ⟨g, 0, none⟩ v1) := by
  have hG1 := qd0 hg hg1 (Kd.R_ne hR hg (by decide))
  have hz := qaa hG1 0 v1 (cs' := (Pc v1 { p with fs := ⟨[], [], p.gr, at_⟩ :: p.fs }).toArray) rfl
  have hR2 : kRF.R 59 (w1.setCell ⟨g, 0, none⟩ v1) base (fun _ => True) v1 ((⟨.slice none 0 0, .slice none 0 0, p.gr, at_⟩ : RF) :: rs).reverse := by
    rw [List.reverse_cons]
    refine Kd.qge hR1 hG1 ?_ 0 v1
    intro q hq
    have : q ∈ [59] := hq
    rw [List.mem_singleton.1 this]
    decide
  have hS2 : Stack base (w1.setCell ⟨g, 0, none⟩ v1) rs p.fs (fun k => ok k ∧ Bd W k) := by
    refine hS.bd.step (fun k hk hlt => ?_)
    obtain ⟨_, _, q, hq, cells, hc⟩ := hk
    have hkg : k ≠ g := qdz hc hg (by rcases hq with rfl | rfl <;> decide)
    exact (Below.heap_setCell w1 ⟨g, 0, none⟩ v1 k hkg).trans (hg1.block k hlt (Kd.R_ne hR hc (by rcases hq with rfl | rfl <;> decide)))
  refine ⟨⟨hl, hbg, ?_, v1, _, fun _ => True, hz, hR2, rfl, rfl, fun _ => False, fun k => ok k ∧ Bd W k, fun _ h => h.elim, fun _ _ => trivial, fun _ h => h.elim, Kd.qfd _ _ _ _ _, Kd.qfd _ _ _ _ _, hS2⟩, fun k o ho hk => (Below.heap_setCell w1 ⟨g, 0, none⟩ v1 k (qg5 hk hg ho.parser)).trans (qd0 hk hg1 (qg3 hR hk ho.frame))⟩
  have : w1.heap.size ≤ (w1.setCell ⟨g, 0, none⟩ v1).heap.size := by simp [World.setCell]
  have := hg1.size
  omega
set_option maxHeartbeats 4000000 in
set_option maxRecDepth 100000 in
theorem qj3 (base g : Nat) (p : PS) (at_ : Int) (W : World) (h : IsP base W g p) (hgr : 0 ≤ p.gr ∧ p.gr ≤ 9) (hl : p.fs.length ≤ 1000) :
    Calls Try.prog 36 #[.pointer (some ⟨g, 0, none⟩), .int .i64 at_] W fun e w' => e = .returned (.int .i64 (if p.gr = 9 then 4 else 0)) ∧ IsP base w' g (if p.gr = 9 then p else { p with gr := p.gr + 1, fs := ⟨[], [], p.gr + 1, at_⟩ :: p.fs }) ∧ Bel base W w' := by
  obtain ⟨hbg, hc1, hc12, hcs, hfz⟩ := h.cells
  have HI := qa0.mk h
  have HGR := qa0.mk (And.intro hgr hl)
  have HBg := qa0.mk hbg
  have hf1 := hfz 1
  have hf0 := hfz 0
  clear hcs hc12 hfz hgr hl hbg h
  by_cases c : p.gr = 9
  · have cb : (p.gr == 9) = true := beq_iff_eq.mpr c
    rw [if_pos c, if_pos c]
    go_enter Try.func36, Try.ntmps36
    go_wp2
    go_ret
    exact ⟨rfl, HI.out, Bel.refl _ _⟩
  · have cb : (p.gr == 9) = false := beq_eq_false_iff_ne.mpr c
    rw [if_neg c, if_neg c]
    obtain ⟨j, hj⟩ : ∃ j : Int, p.gr + 1 = j := ⟨_, rfl⟩
    have hjw : IntKind.i64.wrap (p.gr + 1) = j := by rw [qbk, qbt (by have := HGR.out; omega) (by have := HGR.out; omega)]; exact hj
    rw [hj]
    clear c
    replace hj := qa0.mk hj
    go_enter Try.func36, Try.ntmps36
    go_wp2
    have HI2 := HI.out.set (p' := { p with gr := j }) 1 (.int .i64 j) rfl HI.out.1 (fun v => Pc_gr v p j)
    have HB2 := HI.out.setB 1 (.int .i64 j)
    generalize W.setCell ⟨g, 1, none⟩ (.int .i64 j) = X at HI2 HB2 ⊢
    obtain ⟨hl10, hbg, hbX, v, rs, ok, hg, hR, hS⟩ := HI2
    obtain ⟨Av, cv, rfl⟩ := Kd.qdb hR
    have hg0 : X.cell? ⟨g, 0, none⟩ = some (.slice Av rs.reverse.length cv) := (qa2 hg 0).trans rfl
    have hg1 : X.cell? ⟨g, 1, none⟩ = some (.int .i64 j) := (qa2 hg 1).trans rfl
    have hga0 : ∀ o : Obj, (X.alloc o).cell? ⟨g, 0, none⟩ = some (.slice Av rs.reverse.length cv) := fun o => (qa2 (qa3 hg o) 0).trans rfl
    have hga1 : ∀ o : Obj, (X.alloc o).cell? ⟨g, 1, none⟩ = some (.int .i64 j) := fun o => (qa2 (qa3 hg o) 1).trans rfl
    have hfX : X.frozen? ⟨g, 0, none⟩ = false := qa1 hg 0
    have hrl : rs.reverse.length ≤ 1000 := by rw [List.length_reverse, hS.len]; exact HGR.out.2
    have HG := qa0.mk hg
    have HR := qa0.mk hR
    have HS := qa0.mk hS
    have HB := qa0.mk HB2
    have HL := qa0.mk (And.intro hl10 (And.intro hbg (And.intro hbX hrl)))
    clear hg hR hS hl10 hbg hbX hrl HB2
    go_region_law (refine Kd.qgs kRF (w0 := X.drew) (W := X.drew) base (by simp [Region.wanted]) (.tmp 21) (.tmp 28) 60 59 (.agg #[.slice none 0 0, .slice none 0 0, .int .i64 0, .int .i64 0]) 64 rfl Try.underlying60 info59 rfl (by decide) (by omega) (.slice Av rs.reverse.length cv) rs.reverse ⟨.slice none 0 0, .slice none 0 0, j, at_⟩ (RFc ⟨.slice none 0 0, .slice none 0 0, j, at_⟩) (fun _ => True) (fun _ => False) (by simp [Act.eval, Act.put]) (by simp [Act.eval, Act.put]) ⟨rfl, ⟨_, _, _, rfl⟩, ⟨_, _, _, rfl⟩⟩ (fun _ hk => hk.elim) (fun _ _ => trivial) (Kd.qcj HR.out) (Below.refl _ _) HL.out.2.2.1 (by have := HL.out.2.2.2; omega) ?_; intro v1 w3 hR1 hB1 hgw hat; have hb1 := qd0 (qa5 HG.out) hgw (Kd.R_ne (Kd.qcj HR.out) (qa5 HG.out) (by decide)); have HR1 := qa0.mk hR1; have HB1 := qa0.mk hB1; have HGW := qa0.mk hgw; have hc9 : w3.cell? ⟨g, 0, none⟩ = some (.slice Av rs.reverse.length cv) := (qa2 hb1 0).trans rfl; have hf9 : w3.frozen? ⟨g, 0, none⟩ = false := qa1 hb1 0; obtain ⟨A1, c1, rfl⟩ := Kd.qdb hR1; clear hR1 hB1 hgw hat hb1)
    all_goals
      go_wp2
      go_ret
      have hfin := open_done (W := X.drew) (p := { p with gr := j }) (at_ := at_) HL.out.1 HL.out.2.1 HL.out.2.2.1 (qa5 HG.out) (Kd.qcj HR.out) (HS.out.step (fun _ _ _ => rfl)) HR1.out HGW.out
      have hlen : (rs.reverse ++ [(⟨.slice none 0 0, .slice none 0 0, j, at_⟩ : RF)]).length = rs.length + 1 := by simp
      rw [hlen] at hfin
      exact ⟨rfl, hfin.1, HB.out.trans ⟨((Below.refl base X).drew.trans HB1.out).setCell HL.out.2.1 _, hfin.2⟩⟩
end Go.Proofs.Ytcmipoicnonaeaa.F
end
section
namespace Go.Proofs.Ytcmipoicnonaeaa.F
open Go.RowKit Go.Proofs.YtcmipoicnonaeaaW.PrintWords Go.Proofs.YtcmipoicnonaeaaW.PrintLast Go.Proofs.YtcmipoicnonaeaaW.PrintMore
set_option linter.unusedVariables false
set_option linter.unusedSimpArgs false
theorem slice_take {P : Program} (t e : TypeId) (kl : IntKind) {i : TypeInfo} (ht : P.underlying t = some (.slice e)) (hi : P.info? e = some i) (A : Option Addr) (c n : Nat) (j : Int) (h0 : 0 ≤ j) (hc : j ≤ c) :
  ∀ W : World, (Instr.slice t (.slice A n c) none (some (.int kl j)) none).run P W = .ok (.slice A j.toNat c) W := by
 intro W
 have hel : P.elem t = e := by simp [Program.elem, ht]
 have hu : P.underlying t = some (.slice (P.elem t)) := by rw [hel]; exact ht
 have ha : (A.map fun x => x.add 0) = A := by cases A <;> simp [Addr.add]
 rw [run_slice_h W t A n c hu kl j h0 (by omega), hel]
 simp [sizeOf, typeInfo, hi, sliced, Result.andThen, ha]
def sumW (l : List Int) : Int := l.foldl (fun a n => wrap64 (a + n)) 0
def closed (p : PS) (f f2 : S59) (fs : List S59) : PS :=
 { p with fs := { f2 with f0 := f2.f0 ++ [⟨4, z24, 0, 0, f.f2, [⟨0, z24, 0, 0, 0, f.f0⟩]⟩], f1 := f2.f1 ++ [sumW f.f1] } :: fs, sh := p.sh.set f.f2.toNat true }
theorem close_pop {base g F c q i : Nat} {W X : World} {p : PS} {r0 : RF} {rs : List RF} {fs : List S59} {oB : Nat → Prop} (hl10 : p.sh.length = 10) (hbg : base ≤ g) (hbW : base ≤ W.heap.size) (hi : i < 10)
  (hg : W.heap[g]? = some (.cells (Pc (.slice (some ⟨F, 0, none⟩) (q + 1) c) p).toArray 62 (0, 0))) (hR : kRF.R 59 W base (fun _ => True) (.slice (some ⟨F, 0, none⟩) (q + 1) c) (r0 :: rs).reverse) (hq : rs.length = q) (hS : Stack base W rs fs oB)
  (hX : Below W.heap.size W X) :
  IsPo base ((X.setCell ⟨g, 0, none⟩ (.slice (some ⟨F, 0, none⟩) q c)).setCell ⟨g, 2 + i, none⟩ (.bool true)) g (fun k => oB k ∧ Bd W k) { p with fs := fs, sh := p.sh.set i true } ∧ Bel base W ((X.setCell ⟨g, 0, none⟩ (.slice (some ⟨F, 0, none⟩) q c)).setCell ⟨g, 2 + i, none⟩ (.bool true)) ∧ ∀ k, Bd W k → ((X.setCell ⟨g, 0, none⟩ (.slice (some ⟨F, 0, none⟩) q c)).setCell ⟨g, 2 + i, none⟩ (.bool true)).heap[k]? = W.heap[k]? := by
 have hgX := qae hg hX
 have h1 := qaa hgX 0 (.slice (some ⟨F, 0, none⟩) q c) (cs' := (Pc (.slice (some ⟨F, 0, none⟩) q c) p).toArray) rfl
 have h2 := qaa h1 (2 + i) (.bool true) (Pc_sh _ p hl10 i hi true)
 have hRX := Kd.R_take (m := q) (Kd.qbg hR hX) (by simp; omega)
 have ht : (r0 :: rs).reverse.take q = rs.reverse := by rw [List.reverse_cons, List.take_append_of_le_length (by simp; omega), List.take_of_length_le (by simp; omega)]
 rw [ht] at hRX
 have hty : ∀ q' ∈ 59 :: kRF.E, q' ≠ 62 := by
  intro q' hq'
  have : q' ∈ [59] := hq'
  rw [List.mem_singleton.1 this]
  decide
 have hR2 := Kd.qge (Kd.qge hRX hgX hty 0 (.slice (some ⟨F, 0, none⟩) q c)) h1 hty (2 + i) (.bool true)
 have hold : ∀ k, Bd W k → ((X.setCell ⟨g, 0, none⟩ (.slice (some ⟨F, 0, none⟩) q c)).setCell ⟨g, 2 + i, none⟩ (.bool true)).heap[k]? = W.heap[k]? := by
  rintro k ⟨hlt, q', hq', cells, hc⟩
  have hkg : k ≠ g := qdz hc hg (by rcases hq' with rfl | rfl <;> decide)
  exact (Below.heap_setCell _ ⟨g, 2 + i, none⟩ _ k hkg).trans ((Below.heap_setCell _ ⟨g, 0, none⟩ _ k hkg).trans (hX.block k hlt))
 refine ⟨⟨by simpa using hl10, hbg, ?_, _, _, h2, hR2, hS.bd.step (fun k hk hlt => hold k hk.2)⟩, ⟨(((qca (Below.refl base W) hbW hX).setCell hbg _).setCell hbg _), fun k o ho hk => (Below.heap_setCell _ ⟨g, 2 + i, none⟩ _ k (qg5 hk hg ho.parser)).trans ((Below.heap_setCell _ ⟨g, 0, none⟩ _ k (qg5 hk hg ho.parser)).trans (qae hk hX))⟩, hold⟩
 have := hX.size
 simpa [World.setCell] using Nat.le_trans hbW this
set_option maxHeartbeats 4000000 in
set_option maxRecDepth 100000 in
theorem qim (base g : Nat) (p : PS) (f f2 : S59) (fs : List S59) (hpf : p.fs = f :: f2 :: fs) (W : World) (h : IsP base W g p) (hgr : 0 ≤ f.f2 ∧ f.f2 < 10) (hl : f.f1.length ≤ 100000 ∧ f2.f0.length ≤ 100000 ∧ f2.f1.length ≤ 100000 ∧ fs.length ≤ 900) :
  Calls Try.prog 37 #[.pointer (some ⟨g, 0, none⟩)] W fun e w' => e = .returned (.int .i64 0) ∧ IsP base w' g (closed p f f2 fs) ∧ Bel base W w' := by
 obtain ⟨hl10, hbg, hbW, v, rs, ok, hg, hR, hS⟩ := h
 rw [hpf] at hS
 obtain ⟨r0, r1, rs', rfl⟩ : ∃ r0 r1 rs', rs = r0 :: r1 :: rs' := by
  match rs, hS with
  | [], h => exact h.elim
  | [a], ⟨_, _, _, _, _, _, _, _, _, h⟩ => exact h.elim
  | a :: b :: c, _ => exact ⟨a, b, c, rfl⟩
 obtain ⟨hrg, hra, oA, oB, h1, h2, h3, hk, hi, hS'⟩ := hS
 obtain ⟨F, c, FC, rfl, hc, hbF, hF, -⟩ := qd5 hR (by simp)
 obtain ⟨q, hq⟩ : ∃ q, (r1 :: rs').length = q := ⟨_, rfl⟩
 have hrl : (r0 :: r1 :: rs').reverse.length = q + 1 := by rw [List.length_reverse, List.length_cons, hq]
 rw [hrl] at hR hc hg
 have hql : q = fs.length + 1 := by rw [← hq]; exact hS'.len
 have hr0 : (r0 :: r1 :: rs').reverse[q]? = some r0 := by rw [List.reverse_cons, List.getElem?_append_right (by rw [List.length_reverse]; omega), List.length_reverse, hq]; simp
 obtain ⟨A0, c0, hv0⟩ := Kd.qdb hk
 obtain ⟨A1, c1, hv1⟩ := Kd.qdb hi
 obtain ⟨m, hm⟩ : ∃ m, q * 4 = m := ⟨_, rfl⟩
 have hcells : W.cell? ⟨F, m, none⟩ = some (.slice A0 f.f0.length c0) ∧ W.cell? ⟨F, m + 1, none⟩ = some (.slice A1 f.f1.length c1) ∧ W.cell? ⟨F, m + 2, none⟩ = some (.int .i64 f.f2) ∧ W.cell? ⟨F, m + 3, none⟩ = some (.int .i64 f.f3) := by
  obtain ⟨cs, hcl, hM, hcc, -⟩ := Kd.qei (Kd.qdx hR) r0 (q : Int) (by omega) (by omega)
  rw [Int.toNat_natCast, List.getD_eq_getElem?_getD, hr0] at hM
  obtain ⟨rfl, -, -⟩ := hM
  have a0 := hcc 0 r0.v0 rfl
  have a1 := hcc 1 r0.v1 rfl
  have a2 := hcc 2 (.int .i64 r0.g) rfl
  have a3 := hcc 3 (.int .i64 r0.a) rfl
  rw [Int.toNat_natCast, Nat.zero_add, show q * kRF.sz = m from hm] at a0 a1 a2 a3
  rw [hv0] at a0
  rw [hv1] at a1
  rw [hrg] at a2
  rw [hra] at a3
  exact ⟨a0, a1, a2, a3⟩
 obtain ⟨k0, k1, k2, k3⟩ := hcells
 have hg0 : W.cell? ⟨g, 0, none⟩ = some (.slice (some ⟨F, 0, none⟩) (q + 1) c) := (qa2 hg 0).trans rfl
 obtain ⟨n1, hn1⟩ : ∃ n1, q + 1 = n1 := ⟨_, rfl⟩
 rw [hn1] at hg0
 have cn : ((n1 : Int) == 1) = false := beq_eq_false_iff_ne.mpr (by omega)
 obtain ⟨mq, hmq⟩ : ∃ mq : Int, (n1 : Int) - 1 = mq := ⟨_, rfl⟩
 have hmw : IntKind.i64.wrap ((n1 : Int) - 1) = mq := by rw [qbk, qbt (by omega) (by omega)]; exact hmq
 have hmt : mq.toNat = q := by omega
 obtain ⟨i0, hi0, hz0, hz1, hz2⟩ := info_parts info59
 have hcut := slice_take (P := Try.prog) 60 59 .i64 Try.underlying60 hi0 (some ⟨F, 0, none⟩) c n1 mq (by omega) (by omega)
 rw [hmt] at hcut
 obtain ⟨i, hfi⟩ := Int.eq_ofNat_of_zero_le hgr.1
 rw [hfi] at k2
 have hi10 : i < 10 := by omega
 have HMQ := qa0.mk (And.intro hmq (And.intro hn1 (And.intro hfi hi10)))
 clear hmq hn1 hz0 hz1 hz2
 rw [hv0] at hk
 rw [hv1] at hi
 have HG := qa0.mk hg
 have HR := qa0.mk hR
 have HK := qa0.mk hk
 have HI := qa0.mk hi
 have HF := qa0.mk hF
 have HS := qa0.mk hS'
 have HL := qa0.mk hl
 have HGR := qa0.mk hgr
 have HO := qa0.mk (And.intro h1 (And.intro h2 h3))
 have HM := qa0.mk (And.intro hm (And.intro hq (And.intro hql hc)))
 have HB := qa0.mk (And.intro hbg (And.intro hbW hbF))
 clear hg hR hk hi hS' hl hgr h1 h2 h3 hm hq hql hr0 hrl hbg hbW hbF hF hc
 go_enter Try.func37, Try.ntmps37
 go_wp2_with (first | (go_at_call 27; refine (qdd g F n1 c _ hg0 (by have := HMQ.out; omega) (by have := HL.out; have := HM.out.2.2.1; have := HMQ.out; omega)).mono ?_; rintro e' w2 ⟨rfl, mm, rfl⟩; rw [show n1 - 1 = q from (by have := HMQ.out; omega), HM.out.1]) | ((with_reducible refine qb7 (N := 3) rfl ?_); refine qbb ?hg (N := 3) ?hd (cs := #[.slice none 0 0, .slice none 0 0, .int .i64 0, .int .i64 0]) (t := 59) ?hr ?_; (case hd => rfl); (case hg => rfl); (case hr => first | (go_simp; done) | (go_simp; rfl)); intro gb hgb w1 hbox hb1; have HBX := qa0.mk hbox; have HB1 := qa0.mk (show Below W.heap.size W w1 from qca (qa7 (Below.refl _ _) _) (Nat.le_refl _) hb1); have HGB := qa0.mk (show W.heap.size ≤ gb from Nat.le_of_eq hgb.symm); clear hbox hb1 hgb) | ((with_reducible refine qg9 (p := 3) rfl ?_); refine store_whole rfl rfl 59 (.tmp 3) (.tmp 16) rfl gb #[.slice A0 f.f0.length c0, .slice A1 f.f1.length c1, .int .i64 (i : Int), .int .i64 f.f3] rfl rfl 59 _ HBX.out (by kernel_rfl) rfl (all_oneCell_toArray (kRF.K_one (w := W) (x := ⟨.slice A0 f.f0.length c0, .slice A1 f.f1.length c1, (i : Int), f.f3⟩) ⟨rfl, ⟨_, _, _, rfl⟩, ⟨_, _, _, rfl⟩⟩)) ?_; intro w3 hb3 hg3; have HBX3 := qa0.mk hb3; have HB3 := qa0.mk (HB1.out.grown hg3 HB1.out.size (fun j e => by injection e with e; rw [← e]; exact HGB.out)); clear hb3 hg3 HBX))
 have hgX := qae HG.out HB3.out
 have hg0' : w3.cell? ⟨g, 0, none⟩ = some (.slice (some ⟨F, 0, none⟩) n1 c) := by have := HMQ.out.2.1; rw [← this]; exact (qa2 hgX 0).trans rfl
 have hf0' : w3.frozen? ⟨g, 0, none⟩ = false := qa1 hgX 0
 clear hgX hg0 k0 k1 k2 k3 HB1
 go_region_law (fail)
 all_goals
  obtain ⟨X4, hX4⟩ : ∃ X, w3.setCell ⟨g, 0, none⟩ (.slice (some ⟨F, 0, none⟩) q c) = X := ⟨_, rfl⟩
  rw [hX4]
  have hbg' : gb ≠ g := qdz HBX3.out (qae HG.out HB3.out) (by decide)
  have hX4b : X4.heap[gb]? = some (.cells #[.slice A0 f.f0.length c0, .slice A1 f.f1.length c1, .int .i64 (i : Int), .int .i64 f.f3] 59 (0, 0)) := by rw [← hX4]; exact qaj HBX3.out (p := ⟨g, 0, none⟩) hbg' _
  have hX4g : X4.heap[g]? = some (.cells (Pc (.slice (some ⟨F, 0, none⟩) q c) p).toArray 62 (0, 0)) := by rw [← hX4]; exact qaa (qae HG.out HB3.out) 0 _ rfl
  have k5 : X4.cell? ⟨gb, 2, none⟩ = some (.int .i64 (i : Int)) := (qa2 hX4b 2).trans rfl
  obtain ⟨b0, b1, b2, b3, b4, b5, b6, b7, b8, b9, hsh⟩ := qee hl10
  have k6 : X4.cell? ⟨g, 2 + i, none⟩ = some (.bool (p.sh.getD i false)) := by
   rw [qa2 hX4g]
   unfold Pc
   rw [hsh]
   have := HMQ.out.2.2.2
   rcases (by omega : i = 0 ∨ i = 1 ∨ i = 2 ∨ i = 3 ∨ i = 4 ∨ i = 5 ∨ i = 6 ∨ i = 7 ∨ i = 8 ∨ i = 9) with rfl | rfl | rfl | rfl | rfl | rfl | rfl | rfl | rfl | rfl
   all_goals rfl
  have hf6 : X4.frozen? ⟨g, 2 + i, none⟩ = false := qa1 hX4g _
  have p6 : (0 ≤ (i : Int)) = True := eq_true (by omega)
  have q6 : ((i : Int) < 10) = True := eq_true (by have := HMQ.out.2.2.2; omega)
  have HX4 := qa0.mk hX4
  have HX4b := qa0.mk hX4b
  have HX4g := qa0.mk hX4g
  clear hX4 hX4b hX4g hg0' hf0' hsh
  go_wp2
  go_region_law (fail)
  all_goals
   have hG5 := HG.out
   have hR5 := HR.out
   obtain ⟨hpo, hbel, hold⟩ := close_pop (fs := f2 :: fs) (rs := r1 :: rs') (i := i) hl10 HB.out.1 HB.out.2.1 HMQ.out.2.2.2 hG5 hR5 HM.out.2.1 HS.out HB3.out
   rw [HX4.out] at hpo hbel hold
   obtain ⟨X5, hX5⟩ : ∃ X, X4.setCell ⟨g, 2 + i, none⟩ (.bool true) = X := ⟨_, rfl⟩
   rw [hX5] at hpo hbel hold ⊢
   have hbg2 : gb ≠ g := qdz HBX3.out (qae HG.out HB3.out) (by decide)
   have hX5b : X5.heap[gb]? = some (.cells #[.slice A0 f.f0.length c0, .slice A1 f.f1.length c1, .int .i64 (i : Int), .int .i64 f.f3] 59 (0, 0)) := by rw [← hX5]; exact qaj HX4b.out (p := ⟨g, 2 + i, none⟩) hbg2 _
   have hK5 : k27.R 27 X5 base (fun k => oA k ∧ Bd W k) (.slice A0 f.f0.length c0) f.f0 := Kd.qe0 (R_bd HK.out) (fun k hk => hold k hk.2)
   have hI5 : (Kd.int .i64).R 3 X5 base (fun k => oA k ∧ Bd W k) (.slice A1 f.f1.length c1) f.f1 := Kd.qe0 (I_bd HI.out) (fun k hk => hold k hk.2)
   have k7 : X5.cell? ⟨gb, 1, none⟩ = some (.slice A1 f.f1.length c1) := (qa2 hX5b 1).trans rfl
   have HPO := qa0.mk hpo
   have HBL := qa0.mk hbel
   have HX5b := qa0.mk hX5b
   have HK5 := qa0.mk hK5
   have HI5 := qa0.mk hI5
   clear hG5 hR5 hpo hbel hold hX5 hX5b hK5 hI5 k5 k6 hf6 p6 q6 HX4 HX4b HX4g HG HR HS HK HI HF HBX3 HB3
   go_wp2
   go_loopg [4, 40] f.f1.length (fun gk v4 v40 wr => ∃ (j : Nat) (s : Int), v40 = .int .i64 (j : Int) ∧ v4 = .int .i64 s ∧ qa0 (j + gk = f.f1.length) ∧ qa0 ((f.f1.drop j).foldl (fun a n => wrap64 (a + n)) s = sumW f.f1) ∧ qa0 (Below X5.heap.size X5 wr))
   case atStart => exact ⟨0, 0, rfl, rfl, ⟨Nat.zero_add _⟩, ⟨rfl⟩, ⟨by repeat (first | exact Below.refl _ _ | apply qa8 | apply qa7)⟩⟩
   case round =>
    obtain ⟨j, s, rfl, rfl, HJ, HSM, HBr⟩ := hrel
    have k8 := (qa2 (qae HX5b.out HBr.out) 0).trans rfl
    cases gk with
    | zero =>
     have c2 : decide ((j : Int) < (f.f1.length : Int)) = false := decide_eq_false (by have := HJ.out; omega)
     have c2n : decide (j < f.f1.length) = false := decide_eq_false (by have := HJ.out; omega)
     have c2f : (j < f.f1.length) = False := eq_false (by have := HJ.out; omega)
     have hs : s = sumW f.f1 := by
      have h1 := HSM.out
      rw [List.drop_eq_nil_of_le (by have := HJ.out; omega)] at h1
      exact h1
     subst hs
     have k9 : wr.cell? ⟨gb, 2, none⟩ = some (.int .i64 (i : Int)) := (qa2 (qae HX5b.out HBr.out) 2).trans rfl
     have k10 : wr.cell? ⟨gb, 0, none⟩ = some (.slice A0 f.f0.length c0) := k8
     have hKw := qa0.mk (Kd.qbg HK5.out HBr.out)
     have hbw := qa0.mk (Nat.le_trans (Nat.le_trans HB.out.2.1 HBL.out.1.size) HBr.out.size)
     clear k8 HSM HX5b HK5 HI5
     go_wp2_with (first | ((with_reducible refine qb7 (N := 54) rfl ?_); refine Kd.R_lit k27 (w0 := wr) base 27 ?hg (N := 54) ?hd (xs := [(⟨0, ⟨0, 0, 0, 0⟩, 0, 0, 0, f.f0⟩ : S27)]) (inner := [.int .i64 0, .int .u64 0, .int .u64 0, .int .u64 0, .int .u64 0, .int .i64 0, .int .i64 0, .int .i64 0, .slice A0 f.f0.length c0]) (ok := fun k => (oA k ∧ Bd W k) ∨ X5.heap.size ≤ k) (okp := fun k => oA k ∧ Bd W k) ?hr ?hp (fun _ hk => .inl hk) (.inr HBr.out.size) (Below.refl _ _) hbw.out (by simp) ?_; (case hd => rfl); (case hg => rfl); (case hr => first | (go_simp; done) | (go_simp; rfl)); (case hp => exact Reps.front (qfv wr base _ ⟨0, ⟨0, 0, 0, 0⟩, 0, 0, 0, f.f0⟩ hKw.out) rfl (Reps.none _ _) rfl); intro v54 w54 hR54 hB54 hg54 hat54; obtain ⟨K54, c54, cl54, rfl, -, -, -, -⟩ := qd5 hR54 (by simp); have HR54 := qa0.mk hR54; have HBW := qa0.mk ((Below.refl wr.heap.size wr).grown hg54 (Nat.le_refl _) (fun j e => by cases e));  clear hR54 hB54 hg54 hat54 k9 k10) | (go_at_call 34; refine (qgt base g { p with fs := f2 :: fs, sh := p.sh.set i true } f2 fs rfl ⟨4, ⟨0, 0, 0, 0⟩, 0, 0, (i : Int), [⟨0, ⟨0, 0, 0, 0⟩, 0, 0, 0, f.f0⟩]⟩ (.slice (some ⟨K54, 0, none⟩) 1 c54) (sumW f.f1) _ _ _ ((HPO.out.below HBr.out).below HBW.out) HR54.out (fun k h1 h2 => h1.elim (fun h => HO.out.2.2 k h.1 h2.1) (fun h => by have := h2.2.1; have := HBL.out.1.size; omega)) (by have := HL.out; omega)).mono ?_; rintro e' w6 ⟨rfl, hIP, hBB⟩; have HIP := qa0.mk hIP; have HBB := qa0.mk hBB; clear hIP hBB))
     go_ret
     refine ⟨rfl, ?_, ((HBL.out.trans (Bel.of_below HBr.out (Nat.le_trans HB.out.2.1 HBL.out.1.size))).trans (Bel.of_below HBW.out hbw.out)).trans HBB.out⟩
     have hf := HIP.out
     unfold closed
     rw [HMQ.out.2.2.1, Int.toNat_natCast]
     exact hf
    | succ gk =>
     have hj : j < f.f1.length := by have := HJ.out; omega
     have c2 : decide ((j : Int) < (f.f1.length : Int)) = true := decide_eq_true (by omega)
     have p8 : (0 ≤ (j : Int)) = True := eq_true (by omega)
     have q8 : ((j : Int) < (f.f1.length : Int)) = True := eq_true (by omega)
     have hjw : IntKind.i64.wrap ((j : Int) + 1) = ((j + 1 : Nat) : Int) := by rw [qbk, qbt (by have := HL.out; omega) (by have := HL.out; omega)]; omega
     obtain ⟨ad, hae, hx⟩ := Kd.at_int (Kd.qd2 (Kd.qbg HI5.out HBr.out)).2.2 (j : Int) (by omega) (by omega)
     cases hae
     rw [Int.toNat_natCast] at hx
     have HJ2 := qa0.mk hj
     clear hj
     have HRD : qa0 (rd f.f1 (j : Int) = f.f1[j]'HJ2.out) := ⟨by have hj := HJ2.out; simp [rd, List.getD_eq_getElem?_getD, hj]⟩
     go_wp2
     go_roundg gk
     case measure => omega
     case rel => exact ⟨j + 1, wrap64 (s + rd f.f1 (j : Int)), (by first | rfl | rw [hjw]), rfl, ⟨by have := HJ.out; omega⟩, ⟨by have h1 := HSM.out; rw [List.drop_eq_getElem_cons HJ2.out, List.foldl_cons, ← HRD.out] at h1; exact h1⟩, HBr⟩
end Go.Proofs.Ytcmipoicnonaeaa.F
end
