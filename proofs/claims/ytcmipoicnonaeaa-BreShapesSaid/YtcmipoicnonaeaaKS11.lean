/- Texts of this claim, 11 of 29: F74, F75, F76. -/

import Derived.Test.YtcmipoicnonaeaaKS4
import Derived.Test.YtcmipoicnonaeaaKS6
import Derived.Test.YtcmipoicnonaeaaKS7
import Derived.Test.YtcmipoicnonaeaaKS10
section
namespace Go.Proofs.Ytcmipoicnonaeaa.F
open Go.RowKit Go.Proofs.YtcmipoicnonaeaaW.PrintWords Go.Proofs.YtcmipoicnonaeaaW.PrintLast Go.Proofs.YtcmipoicnonaeaaW.PrintMore
set_option linter.unusedVariables false
set_option linter.unusedSimpArgs false
def qef (s : ByteArray) (p : Int) : Bool := (bt s p != 91) || decide ((s.size : Int) ≤ p + 1) || decide (Lib.indexByte [46, 61, 58] (bt s (p + 1)).toNat.toUInt8 < 0)
def qan.f (s0_0 : ByteArray) (s0_1 : Int) (s0_2 : Int) : Option (Int × Int × Int × Int × Int × Bool × ByteArray × Int × Int) :=
 if 0 ≤ s0_1 ∧ s0_1 < (s0_0.size : Int) ∧ s0_0.size < 4294967281 then
  (if qef s0_0 s0_1 = true then (qcz.f (strOfNums [bt s0_0 s0_1])).bind fun t => some (t.1, t.2.1, t.2.2.1, t.2.2.2, bt s0_0 s0_1, true, s0_0, s0_1 + 1, s0_2)
  else (qby.f s0_0 s0_1 s0_2).bind fun t =>
   if t.2.2.2.2 = 0 then
    (if t.2.1 = 58 then (qcy.f t.1).bind fun u => some (u.1, u.2.1, u.2.2.1, u.2.2.2.1, 0, false, t.2.2.1, t.2.2.2.1, u.2.2.2.2)
    else if (t.1.size : Int) = 1 then (qcz.f t.1).bind fun u => some (u.1, u.2.1, u.2.2.1, u.2.2.2, bt t.1 0, t.2.1 == 46, t.2.2.1, t.2.2.2.1, t.2.2.2.2)
    else some (0, 0, 0, 0, 0, false, t.2.2.1, t.2.2.2.1, 8))
   else some (0, 0, 0, 0, 0, false, t.2.2.1, t.2.2.2.1, t.2.2.2.2))
 else none
theorem once_ {P : Program} {f : FuncId} {args : Array Value} {w : World} {n : Nat} {v : Value} (h : Calls P f args (w.drewN n) fun e w' => e = .returned v ∧ w' = w.drewN n) :
  Calls P f args (w.drewN n) fun e w'' => e = .returned v ∧ ∃ m, w'' = w.drewN m :=
 h.mono fun _ _ h2 => ⟨h2.1, n, h2.2⟩
def item_T6 : Bool × List (List Nat × List Nat) := (true, [([], []), ([0], [0]), ([], []), ([2], [2]), ([], []), ([4], [4]), ([1, 1, 0, 1], [1]), ([3, 6, 0, 1, 2, 3, 6], [3]), ([5, 7, 0, 1, 2, 3, 4, 5, 6, 7], [5])])
def item_B6 : List Nat := [0, 1, 0, 4, 0, 16, 3, 79, 255]
theorem item_tab6 : rtab .any (opsOf Try.f74 6) = item_T6 := by kernel_rfl
theorem item_bits6 : qct item_T6.2 item_B6 = true := by kernel_rfl
def qav : Obj := .cells #[.int .u64 0, .int .u64 0, .int .u64 0, .int .u64 0] 24 (0, 0)
theorem qgo {P : Program} {ops : Array Oper} {rest : List Oper} {o : Oper} {a : Act} {Q : Exit → Act → World → Prop} {W : World} (hgd : o.guard = none) {N : Tmp} (_hd : o.dst = some N) {n : Nat} {cs : Array Value} {t : TypeId}
  (hrun : (execOp a.eval o).run P W = .ok (.value (.slice (some ⟨W.heap.size, 0, none⟩) n n)) (W.alloc (.cells cs t (0, 0))))
  (h : ∀ g, g = W.heap.size → ∀ w1, w1.heap[g]? = some (.cells cs t (0, 0)) → Below W.heap.size W w1 → wpList P ops Q rest (a.put o.dst (.slice (some ⟨g, 0, none⟩) n n)) w1) : wpList P ops Q (o :: rest) a W :=
 Kd.qel hgd hrun (h _ rfl _ (qat W _) (qa6 (Below.refl _ _) _))
theorem qi3 {w : World} {g : Nat} {x : Int} (h : w.heap[g]? = some (.cells #[.int .u8 x] 5 (0, 0))) : qcr w .u8 (some ⟨g, 0, none⟩) 1 [x] :=
 ⟨rfl, by decide, fun _ => ⟨_, rfl, fun j hj => by rcases (show j = 0 by omega) with rfl; exact (qa2 h _).trans rfl⟩⟩
theorem qi8 {W : World} {b g : Nat} (h : W.heap[b]? = some qav) (hg : g < b) (x : Int) : (W.setCell ⟨g, 1, none⟩ (.int .i64 x)).heap[b]? = some qav :=
 (Below.heap_setCell W ⟨g, 1, none⟩ _ b (by show b ≠ g; omega)).trans h
theorem qda {w W W' : World} {g : Nat} (h : qax w W g none) (hb : Below W.heap.size W W') : qax w W' g none :=
 ⟨Nat.le_trans h.1 hb.size, fun i hi hg hr => (hb.block i (Nat.lt_of_lt_of_le hi h.1)).trans (h.2 i hi hg hr)⟩
theorem qas {w W : World} {g b : Nat} (h : qax w W g none) (hb : w.heap.size ≤ b) (j : Nat) (u : Value) : qax w (W.setCell ⟨b, j, none⟩ u) g none :=
 ⟨by simpa [World.setCell] using h.1, fun i hi hg hr => (Below.heap_setCell W ⟨b, j, none⟩ u i (by show i ≠ b; omega)).trans (h.2 i hi hg hr)⟩
set_option maxHeartbeats 4000000 in
set_option maxRecDepth 100000 in
theorem qan.calls (g : Nat) (s0_0 : ByteArray) (s0_1 : Int) (s0_2 : Int) (r1 r2 r3 r4 r5 : Int) (r6 : Bool) (r7 : ByteArray) (r8 r9 : Int) (w0 w : World) (hML : ML w0) (hI : qak w0 w g s0_0 s0_1 s0_2) (hB : Below w0.heap.size w0 w) (h : qan.f s0_0 s0_1 s0_2 = some (r1, r2, r3, r4, r5, r6, r7, r8, r9)) :
  Calls Try.prog 74 #[.pointer (some ⟨g, 0, none⟩)] w fun e w' => e = .returned (.tuple #[.agg #[.int .u64 r1, .int .u64 r2, .int .u64 r3, .int .u64 r4], .int .u8 r5, .bool r6]) ∧ qak w0 w' g r7 r8 r9 ∧ Below w0.heap.size w0 w' ∧ qax w w' g none := by
 unfold qan.f at h
 by_cases hc : 0 ≤ s0_1 ∧ s0_1 < (s0_0.size : Int) ∧ s0_0.size < 4294967281
 rotate_left
 ·rw [if_neg hc] at h; cases h
 rw [if_pos hc] at h
 obtain ⟨hp0, hp1, hsz⟩ := hc
 have HH := qa0.mk h
 have HM := qa0.mk hML
 clear h hML
 go_enter Try.func74, Try.ntmps74
 go_wp2
 generalize hW : World.alloc w _ = W
 have hi1 : qak w0 W g s0_0 s0_1 s0_2 := by subst hW; exact hI.alloc _
 have HR1 : qa0 (W.heap[w.heap.size]? = some qav) := by subst hW; exact ⟨qat w _⟩
 have HB1 : qa0 (Below w0.heap.size w0 W) := by subst hW; exact ⟨qa6 hB _⟩
 have HK1 : qa0 (qax w W g none) := by subst hW; exact ⟨qbf (qax.refl _ _ _) _⟩
 have HS := qa0.mk hB.size
 have HL := qa0.mk (show g < w.heap.size from hI.lt)
 have HI1 := qa0.mk hi1
 obtain ⟨HG, hg⟩ := hi1
 have hc0 := qaz HG
 have hc1 := qb2 HG
 have hc2 := qb1 HG
 have hf0 := qa1 HG 0
 have hf1 := qa1 HG 1
 have hf2 := qa1 HG 2
 clear HG hg hB hI hW
 obtain ⟨j1, hj1⟩ : ∃ j : Int, s0_1 + 1 = j := ⟨_, rfl⟩
 have hw1 : IntKind.i64.wrap (s0_1 + 1) = j1 := by rw [qbk, qbt (by omega) (by omega)]; exact hj1
 have p0 : (0 ≤ s0_1) = True := eq_true hp0
 have q0 : (s0_1 < (s0_0.size : Int)) = True := eq_true hp1
 have hx0 := qbz s0_0 s0_1
 have HJ := qa0.mk (show 0 ≤ s0_1 ∧ s0_1 < (s0_0.size : Int) ∧ s0_1 + 1 = j1 ∧ s0_0.size < 4294967281 by omega)
 clear hp0 hp1 hsz hj1
 by_cases hpl : qef s0_0 s0_1 = true
 ·have hH := HH.out
  rw [if_pos hpl] at hH
  obtain ⟨⟨t1, t2, t3, t4⟩, hof, hH⟩ := Option.bind_eq_some_iff.1 hH
  have HOF := qa0.mk hof
  simp only [Option.some.injEq, Prod.mk.injEq] at hH
  rw [HJ.out.2.2.1] at hH
  obtain ⟨rfl, rfl, rfl, rfl, rfl, rfl, rfl, rfl, rfl⟩ := hH
  clear hof HH
  have hcases : (bt s0_0 s0_1 == 91) = false ∨ ((bt s0_0 s0_1 == 91) = true ∧ decide ((s0_0.size : Int) ≤ j1) = true) ∨ ((bt s0_0 s0_1 == 91) = true ∧ decide ((s0_0.size : Int) ≤ j1) = false ∧ decide (Lib.indexByte [46, 61, 58] (bt s0_0 j1).toNat.toUInt8 < 0) = true) := by
   have h := hpl
   unfold qef at h
   rw [HJ.out.2.2.1, bne] at h
   revert h
   generalize (bt s0_0 s0_1 == 91) = a; generalize decide ((s0_0.size : Int) ≤ j1) = b; generalize decide (Lib.indexByte [46, 61, 58] (bt s0_0 j1).toNat.toUInt8 < 0) = c
   cases a <;> cases b <;> cases c <;> simp
  clear hpl
  rcases hcases with ha | ⟨ha, hb⟩ | ⟨ha, hb, hd⟩
  ·have ha' : (bt s0_0 s0_1 != 91) = true := by rw [bne, ha]; rfl
   go_quiet (fail)
   try go_wp2
   generalize hW : World.drewN W _ = W2
   have hi_ : qak w0 W2 g s0_0 s0_1 s0_2 := by subst hW; exact HI1.out.drewN _
   have HR2 : qa0 (W2.heap[w.heap.size]? = some qav) := by subst hW; exact ⟨qa4 HR1.out _⟩
   have HB2 : qa0 (Below w0.heap.size w0 W2) := by subst hW; exact ⟨qa7 HB1.out _⟩
   have HK2 : qa0 (qax w W2 g none) := by subst hW; exact ⟨qcb HK1.out _⟩
   have HI2 := qa0.mk hi_
   obtain ⟨HG, hg⟩ := hi_
   clear hc0 hc1 hc2 hf0 hf1 hf2
   have hc0 := qaz HG
   have hc1 := qb2 HG
   have hc2 := qb1 HG
   have hf0 := qa1 HG 0
   have hf1 := qa1 HG 1
   have hf2 := qa1 HG 2
   clear HG hg
   clear hW HI1 HR1 HB1 HK1
   go_quiet (fail)
   generalize hW : World.drewN W2 _ = W3
   have hi_ : qak w0 W3 g s0_0 s0_1 s0_2 := by subst hW; exact HI2.out.drewN _
   have HR3 : qa0 (W3.heap[w.heap.size]? = some qav) := by subst hW; exact ⟨qa4 HR2.out _⟩
   have HB3 : qa0 (Below w0.heap.size w0 W3) := by subst hW; exact ⟨qa7 HB2.out _⟩
   have HK3 : qa0 (qax w W3 g none) := by subst hW; exact ⟨qcb HK2.out _⟩
   have HI3 := qa0.mk hi_
   obtain ⟨HG, hg⟩ := hi_
   clear hc0 hc1 hc2 hf0 hf1 hf2
   have hc0 := qaz HG
   have hc1 := qb2 HG
   have hc2 := qb1 HG
   have hf0 := qa1 HG 0
   have hf1 := qa1 HG 1
   have hf2 := qa1 HG 2
   clear HG hg
   clear hW HI2 HR2 HB2 HK2
   go_wp2_with (first | ((with_reducible refine qb7 (N := 61) rfl ?_); refine qgo ?hg (N := 61) ?hd (n := 1) (cs := #[.int .u8 (bt s0_0 s0_1)]) (t := 5) ?hr ?_; (case hd => rfl); (case hg => rfl); (case hr => first | (go_simp; done) | (go_simp; rfl)); intro gb hgb W4 hbox hb4; have HI4 := qa0.mk ((HI3.out.qdv j1).below hb4); have HR4 := qa0.mk (qae (qi8 HR3.out HL.out j1) hb4); have HB4 := qa0.mk (qca (qa9 HB3.out HI3.out.ge) (qa9 HB3.out HI3.out.ge).size hb4); have HK4 := qa0.mk (qda (HK3.out.set_ 1 (.int .i64 j1)) hb4); have HRD := qa0.mk (qi3 hbox); clear HI3 HR3 HB3 HK3 hbox hb4 hgb hc0 hc1 hc2 hf0 hf1 hf2) | ((with_reducible refine qb7 (N := 62) rfl ?_); refine Kd.qel rfl (qhk (c := 1) 61 rfl (by rfl) HRD.out) ?_) | (go_at_call 67; refine (qcz.calls _ t1 t2 t3 t4 _ HOF.out).mono ?_; rintro e w5 ⟨rfl, hb5⟩; have HI5 := qa0.mk (HI4.out.below hb5); have HR5 := qa0.mk (qae HR4.out hb5); have HB5 := qa0.mk (qca HB4.out HB4.out.size hb5); have HK5 := qa0.mk (qda HK4.out hb5); have hr5 := HR5.out; unfold qav at hr5; have hf0 := qa1 hr5 0; have hf1 := qa1 hr5 1; have hf2 := qa1 hr5 2; have hf3 := qa1 hr5 3; have hc0 : _ = some (Value.int .u64 0) := (qa2 hr5 0).trans rfl; have hc1 : _ = some (Value.int .u64 0) := (qa2 hr5 1).trans rfl; have hc2 : _ = some (Value.int .u64 0) := (qa2 hr5 2).trans rfl; have hc3 : _ = some (Value.int .u64 0) := (qa2 hr5 3).trans rfl; clear hr5 hb5 HI4 HR4 HB4 HK4 HRD))
   have hne : g ≠ w.heap.size := by have := HL.out; omega
   refine bodyPost_ret (qb3 (rs := [.cell 2 24, .tmp 3, .tmp 4]) rfl (by simp) (.cell w.heap.size _ _ (0, 0) _ rfl (set4 HR5.out _ _ _ _) Try.underlying24 rfl (by kernel_rfl) (.tmp (.tmp .nil)))) rfl ?_
   exact ⟨rfl, ((((qak.far HI5.out hne _).far hne _).far hne _).far hne _), (qa9 (qa9 (qa9 (qa9 HB5.out HS.out) HS.out) HS.out) HS.out), (qas (qas (qas (qas HK5.out (Nat.le_refl _) _ _) (Nat.le_refl _) _ _) (Nat.le_refl _) _ _) (Nat.le_refl _) _ _)⟩
  ·have ha' : (bt s0_0 s0_1 != 91) = false := by rw [bne, ha]; rfl
   go_quiet (fail)
   try go_wp2
   generalize hW : World.drewN W _ = W2
   have hi_ : qak w0 W2 g s0_0 s0_1 s0_2 := by subst hW; exact HI1.out.drewN _
   have HR2 : qa0 (W2.heap[w.heap.size]? = some qav) := by subst hW; exact ⟨qa4 HR1.out _⟩
   have HB2 : qa0 (Below w0.heap.size w0 W2) := by subst hW; exact ⟨qa7 HB1.out _⟩
   have HK2 : qa0 (qax w W2 g none) := by subst hW; exact ⟨qcb HK1.out _⟩
   have HI2 := qa0.mk hi_
   obtain ⟨HG, hg⟩ := hi_
   clear hc0 hc1 hc2 hf0 hf1 hf2
   have hc0 := qaz HG
   have hc1 := qb2 HG
   have hc2 := qb1 HG
   have hf0 := qa1 HG 0
   have hf1 := qa1 HG 1
   have hf2 := qa1 HG 2
   clear HG hg
   clear hW HI1 HR1 HB1 HK1
   go_quiet (fail)
   generalize hW : World.drewN W2 _ = W3
   have hi_ : qak w0 W3 g s0_0 s0_1 s0_2 := by subst hW; exact HI2.out.drewN _
   have HR3 : qa0 (W3.heap[w.heap.size]? = some qav) := by subst hW; exact ⟨qa4 HR2.out _⟩
   have HB3 : qa0 (Below w0.heap.size w0 W3) := by subst hW; exact ⟨qa7 HB2.out _⟩
   have HK3 : qa0 (qax w W3 g none) := by subst hW; exact ⟨qcb HK2.out _⟩
   have HI3 := qa0.mk hi_
   obtain ⟨HG, hg⟩ := hi_
   clear hc0 hc1 hc2 hf0 hf1 hf2
   have hc0 := qaz HG
   have hc1 := qb2 HG
   have hc2 := qb1 HG
   have hf0 := qa1 HG 0
   have hf1 := qa1 HG 1
   have hf2 := qa1 HG 2
   clear HG hg
   clear hW HI2 HR2 HB2 HK2
   go_wp2_with (first | ((with_reducible refine qb7 (N := 61) rfl ?_); refine qgo ?hg (N := 61) ?hd (n := 1) (cs := #[.int .u8 (bt s0_0 s0_1)]) (t := 5) ?hr ?_; (case hd => rfl); (case hg => rfl); (case hr => first | (go_simp; done) | (go_simp; rfl)); intro gb hgb W4 hbox hb4; have HI4 := qa0.mk ((HI3.out.qdv j1).below hb4); have HR4 := qa0.mk (qae (qi8 HR3.out HL.out j1) hb4); have HB4 := qa0.mk (qca (qa9 HB3.out HI3.out.ge) (qa9 HB3.out HI3.out.ge).size hb4); have HK4 := qa0.mk (qda (HK3.out.set_ 1 (.int .i64 j1)) hb4); have HRD := qa0.mk (qi3 hbox); clear HI3 HR3 HB3 HK3 hbox hb4 hgb hc0 hc1 hc2 hf0 hf1 hf2) | ((with_reducible refine qb7 (N := 62) rfl ?_); refine Kd.qel rfl (qhk (c := 1) 61 rfl (by rfl) HRD.out) ?_) | (go_at_call 67; refine (qcz.calls _ t1 t2 t3 t4 _ HOF.out).mono ?_; rintro e w5 ⟨rfl, hb5⟩; have HI5 := qa0.mk (HI4.out.below hb5); have HR5 := qa0.mk (qae HR4.out hb5); have HB5 := qa0.mk (qca HB4.out HB4.out.size hb5); have HK5 := qa0.mk (qda HK4.out hb5); have hr5 := HR5.out; unfold qav at hr5; have hf0 := qa1 hr5 0; have hf1 := qa1 hr5 1; have hf2 := qa1 hr5 2; have hf3 := qa1 hr5 3; have hc0 : _ = some (Value.int .u64 0) := (qa2 hr5 0).trans rfl; have hc1 : _ = some (Value.int .u64 0) := (qa2 hr5 1).trans rfl; have hc2 : _ = some (Value.int .u64 0) := (qa2 hr5 2).trans rfl; have hc3 : _ = some (Value.int .u64 0) := (qa2 hr5 3).trans rfl; clear hr5 hb5 HI4 HR4 HB4 HK4 HRD))
   have hne : g ≠ w.heap.size := by have := HL.out; omega
   refine bodyPost_ret (qb3 (rs := [.cell 2 24, .tmp 3, .tmp 4]) rfl (by simp) (.cell w.heap.size _ _ (0, 0) _ rfl (set4 HR5.out _ _ _ _) Try.underlying24 rfl (by kernel_rfl) (.tmp (.tmp .nil)))) rfl ?_
   exact ⟨rfl, ((((qak.far HI5.out hne _).far hne _).far hne _).far hne _), (qa9 (qa9 (qa9 (qa9 HB5.out HS.out) HS.out) HS.out) HS.out), (qas (qas (qas (qas HK5.out (Nat.le_refl _) _ _) (Nat.le_refl _) _ _) (Nat.le_refl _) _ _) (Nat.le_refl _) _ _)⟩
  ·have ha' : (bt s0_0 s0_1 != 91) = false := by rw [bne, ha]; rfl
   have hlt : j1 < (s0_0.size : Int) := by have := of_decide_eq_false hb; omega
   have p1 : (0 ≤ j1) = True := eq_true (by have := HJ.out; omega)
   have q1 : (j1 < (s0_0.size : Int)) = True := eq_true hlt
   have hx1 := qbz s0_0 j1
   clear hlt
   go_quiet ((go_at_call 81; exact once_ (Try.strings_IndexByte _ _ _)))
   try go_wp2
   generalize hW : World.drewN W _ = W2
   have hi_ : qak w0 W2 g s0_0 s0_1 s0_2 := by subst hW; exact HI1.out.drewN _
   have HR2 : qa0 (W2.heap[w.heap.size]? = some qav) := by subst hW; exact ⟨qa4 HR1.out _⟩
   have HB2 : qa0 (Below w0.heap.size w0 W2) := by subst hW; exact ⟨qa7 HB1.out _⟩
   have HK2 : qa0 (qax w W2 g none) := by subst hW; exact ⟨qcb HK1.out _⟩
   have HI2 := qa0.mk hi_
   obtain ⟨HG, hg⟩ := hi_
   clear hc0 hc1 hc2 hf0 hf1 hf2
   have hc0 := qaz HG
   have hc1 := qb2 HG
   have hc2 := qb1 HG
   have hf0 := qa1 HG 0
   have hf1 := qa1 HG 1
   have hf2 := qa1 HG 2
   clear HG hg
   clear hW HI1 HR1 HB1 HK1
   go_quiet (fail)
   generalize hW : World.drewN W2 _ = W3
   have hi_ : qak w0 W3 g s0_0 s0_1 s0_2 := by subst hW; exact HI2.out.drewN _
   have HR3 : qa0 (W3.heap[w.heap.size]? = some qav) := by subst hW; exact ⟨qa4 HR2.out _⟩
   have HB3 : qa0 (Below w0.heap.size w0 W3) := by subst hW; exact ⟨qa7 HB2.out _⟩
   have HK3 : qa0 (qax w W3 g none) := by subst hW; exact ⟨qcb HK2.out _⟩
   have HI3 := qa0.mk hi_
   obtain ⟨HG, hg⟩ := hi_
   clear hc0 hc1 hc2 hf0 hf1 hf2
   have hc0 := qaz HG
   have hc1 := qb2 HG
   have hc2 := qb1 HG
   have hf0 := qa1 HG 0
   have hf1 := qa1 HG 1
   have hf2 := qa1 HG 2
   clear HG hg
   clear hW HI2 HR2 HB2 HK2
   go_wp2_with (first | ((with_reducible refine qb7 (N := 61) rfl ?_); refine qgo ?hg (N := 61) ?hd (n := 1) (cs := #[.int .u8 (bt s0_0 s0_1)]) (t := 5) ?hr ?_; (case hd => rfl); (case hg => rfl); (case hr => first | (go_simp; done) | (go_simp; rfl)); intro gb hgb W4 hbox hb4; have HI4 := qa0.mk ((HI3.out.qdv j1).below hb4); have HR4 := qa0.mk (qae (qi8 HR3.out HL.out j1) hb4); have HB4 := qa0.mk (qca (qa9 HB3.out HI3.out.ge) (qa9 HB3.out HI3.out.ge).size hb4); have HK4 := qa0.mk (qda (HK3.out.set_ 1 (.int .i64 j1)) hb4); have HRD := qa0.mk (qi3 hbox); clear HI3 HR3 HB3 HK3 hbox hb4 hgb hc0 hc1 hc2 hf0 hf1 hf2) | ((with_reducible refine qb7 (N := 62) rfl ?_); refine Kd.qel rfl (qhk (c := 1) 61 rfl (by rfl) HRD.out) ?_) | (go_at_call 67; refine (qcz.calls _ t1 t2 t3 t4 _ HOF.out).mono ?_; rintro e w5 ⟨rfl, hb5⟩; have HI5 := qa0.mk (HI4.out.below hb5); have HR5 := qa0.mk (qae HR4.out hb5); have HB5 := qa0.mk (qca HB4.out HB4.out.size hb5); have HK5 := qa0.mk (qda HK4.out hb5); have hr5 := HR5.out; unfold qav at hr5; have hf0 := qa1 hr5 0; have hf1 := qa1 hr5 1; have hf2 := qa1 hr5 2; have hf3 := qa1 hr5 3; have hc0 : _ = some (Value.int .u64 0) := (qa2 hr5 0).trans rfl; have hc1 : _ = some (Value.int .u64 0) := (qa2 hr5 1).trans rfl; have hc2 : _ = some (Value.int .u64 0) := (qa2 hr5 2).trans rfl; have hc3 : _ = some (Value.int .u64 0) := (qa2 hr5 3).trans rfl; clear hr5 hb5 HI4 HR4 HB4 HK4 HRD))
   have hne : g ≠ w.heap.size := by have := HL.out; omega
   refine bodyPost_ret (qb3 (rs := [.cell 2 24, .tmp 3, .tmp 4]) rfl (by simp) (.cell w.heap.size _ _ (0, 0) _ rfl (set4 HR5.out _ _ _ _) Try.underlying24 rfl (by kernel_rfl) (.tmp (.tmp .nil)))) rfl ?_
   exact ⟨rfl, ((((qak.far HI5.out hne _).far hne _).far hne _).far hne _), (qa9 (qa9 (qa9 (qa9 HB5.out HS.out) HS.out) HS.out) HS.out), (qas (qas (qas (qas HK5.out (Nat.le_refl _) _ _) (Nat.le_refl _) _ _) (Nat.le_refl _) _ _) (Nat.le_refl _) _ _)⟩
 ·have hH := HH.out
  rw [if_neg hpl] at hH
  obtain ⟨⟨nm, mk, s9, p9, e9⟩, hn, hH⟩ := Option.bind_eq_some_iff.1 hH
  replace hH : (if e9 = 0 then (if mk = 58 then (qcy.f nm).bind fun u => some (u.1, u.2.1, u.2.2.1, u.2.2.2.1, 0, false, s9, p9, u.2.2.2.2) else if (nm.size : Int) = 1 then (qcz.f nm).bind fun u => some (u.1, u.2.1, u.2.2.1, u.2.2.2, bt nm 0, mk == 46, s9, p9, e9) else some (0, 0, 0, 0, 0, false, s9, p9, 8)) else some (0, 0, 0, 0, 0, false, s9, p9, e9)) = some (r1, r2, r3, r4, r5, r6, r7, r8, r9) := hH
  have HN := qa0.mk hn
  clear hn HH
  have hcases : (bt s0_0 s0_1 == 91) = true ∧ decide ((s0_0.size : Int) ≤ j1) = false ∧ decide (Lib.indexByte [46, 61, 58] (bt s0_0 j1).toNat.toUInt8 < 0) = false := by
   have h := hpl
   unfold qef at h
   rw [HJ.out.2.2.1, bne] at h
   revert h
   generalize (bt s0_0 s0_1 == 91) = a; generalize decide ((s0_0.size : Int) ≤ j1) = b; generalize decide (Lib.indexByte [46, 61, 58] (bt s0_0 j1).toNat.toUInt8 < 0) = c
   cases a <;> cases b <;> cases c <;> simp
  clear hpl
  obtain ⟨ha, hb, hd⟩ := hcases
  have ha' : (bt s0_0 s0_1 != 91) = false := by rw [bne, ha]; rfl
  have hlt : j1 < (s0_0.size : Int) := by have := of_decide_eq_false hb; omega
  have p1 : (0 ≤ j1) = True := eq_true (by have := HJ.out; omega)
  have q1 : (j1 < (s0_0.size : Int)) = True := eq_true hlt
  have hx1 := qbz s0_0 j1
  clear hlt
  go_quiet ((go_at_call 81; exact once_ (Try.strings_IndexByte _ _ _)))
  generalize hW : World.drewN W _ = W2
  have hi_ : qak w0 W2 g s0_0 s0_1 s0_2 := by subst hW; exact HI1.out.drewN _
  have HR2 : qa0 (W2.heap[w.heap.size]? = some qav) := by subst hW; exact ⟨qa4 HR1.out _⟩
  have HB2 : qa0 (Below w0.heap.size w0 W2) := by subst hW; exact ⟨qa7 HB1.out _⟩
  have HK2 : qa0 (qax w W2 g none) := by subst hW; exact ⟨qcb HK1.out _⟩
  have HI2 := qa0.mk hi_
  obtain ⟨HG, hg⟩ := hi_
  clear hc0 hc1 hc2 hf0 hf1 hf2
  have hc0 := qaz HG
  have hc1 := qb2 HG
  have hc2 := qb1 HG
  have hf0 := qa1 HG 0
  have hf1 := qa1 HG 1
  have hf2 := qa1 HG 2
  clear HG hg
  clear hW HI1 HR1 HB1 HK1
  by_cases ce : e9 = 0
  rotate_left
  ·have ce1 : (e9 == 0) = false := beq_eq_false_iff_ne.2 ce
   have ce2 : (e9 != 0) = true := bne_iff_ne.2 ce
   rw [if_neg ce] at hH
   simp only [Option.some.injEq, Prod.mk.injEq] at hH
   obtain ⟨rfl, rfl, rfl, rfl, rfl, rfl, rfl, rfl, rfl⟩ := hH
   clear ce
   go_wp2_with (go_at_call 82; refine (qby.calls g s0_0 s0_1 s0_2 _ _ _ _ _ w0 _ HM.out HI2.out HB2.out HN.out).mono ?_; rintro e w3 ⟨rfl, hi_, hb3, hk3⟩; have HB3 := qa0.mk hb3; have HK3 := qa0.mk (HK2.out.trans hk3 (.inl rfl)); have HR3 : qa0 (w3.heap[w.heap.size]? = some qav) := ⟨(hk3.2 w.heap.size (qam HR2.out) (by have := HL.out; omega) (by simp)).trans HR2.out⟩; have HI3 := qa0.mk hi_; obtain ⟨HG, hg⟩ := hi_; clear hc0 hc1 hc2 hf0 hf1 hf2; have hc0 := qaz HG; have hc1 := qb2 HG; have hc2 := qb1 HG; have hf0 := qa1 HG 0; have hf1 := qa1 HG 1; have hf2 := qa1 HG 2; clear HG hg; have hr3 := HR3.out; unfold qav at hr3; have hg0 := qa1 hr3 0; have hg1 := qa1 hr3 1; have hg2 := qa1 hr3 2; have hg3 := qa1 hr3 3; have hd0 : _ = some (Value.int .u64 0) := (qa2 hr3 0).trans rfl; have hd1 : _ = some (Value.int .u64 0) := (qa2 hr3 1).trans rfl; have hd2 : _ = some (Value.int .u64 0) := (qa2 hr3 2).trans rfl; have hd3 : _ = some (Value.int .u64 0) := (qa2 hr3 3).trans rfl; clear hr3 hb3 hk3 HI2 HR2 HB2 HK2)
   have hne : g ≠ w.heap.size := by have := HL.out; omega
   refine bodyPost_ret (qb3 (rs := [.cell 2 24, .tmp 3, .tmp 4]) rfl (by simp) (.cell w.heap.size _ _ (0, 0) _ rfl (set4 HR3.out _ _ _ _) Try.underlying24 rfl (by kernel_rfl) (.tmp (.tmp .nil)))) rfl ?_
   exact ⟨rfl, ((((qak.far HI3.out hne _).far hne _).far hne _).far hne _), (qa9 (qa9 (qa9 (qa9 HB3.out HS.out) HS.out) HS.out) HS.out), (qas (qas (qas (qas HK3.out (Nat.le_refl _) _ _) (Nat.le_refl _) _ _) (Nat.le_refl _) _ _) (Nat.le_refl _) _ _)⟩
  subst ce
  rw [if_pos rfl] at hH
  by_cases cm : mk = 58
  ·subst cm
   rw [if_pos rfl] at hH
   obtain ⟨⟨u1, u2, u3, u4, u5⟩, hu, hH⟩ := Option.bind_eq_some_iff.1 hH
   have HU := qa0.mk hu
   simp only [Option.some.injEq, Prod.mk.injEq] at hH
   obtain ⟨rfl, rfl, rfl, rfl, rfl, rfl, rfl, rfl, rfl⟩ := hH
   clear hu
   have hne1 : ¬ g = w.heap.size := by have := HL.out; omega
   have hne2 : ¬ w.heap.size = g := by have := HL.out; omega
   go_wp2_with (first | (go_at_call 82; refine (qby.calls g s0_0 s0_1 s0_2 _ _ _ _ _ w0 _ HM.out HI2.out HB2.out HN.out).mono ?_; rintro e w3 ⟨rfl, hi_, hb3, hk3⟩; have HB3 := qa0.mk hb3; have HK3 := qa0.mk (HK2.out.trans hk3 (.inl rfl)); have HR3 : qa0 (w3.heap[w.heap.size]? = some qav) := ⟨(hk3.2 w.heap.size (qam HR2.out) (by have := HL.out; omega) (by simp)).trans HR2.out⟩; have HI3 := qa0.mk hi_; obtain ⟨HG, hg⟩ := hi_; clear hc0 hc1 hc2 hf0 hf1 hf2; have hc0 := qaz HG; have hc1 := qb2 HG; have hc2 := qb1 HG; have hf0 := qa1 HG 0; have hf1 := qa1 HG 1; have hf2 := qa1 HG 2; clear HG hg; have hr3 := HR3.out; unfold qav at hr3; have hg0 := qa1 hr3 0; have hg1 := qa1 hr3 1; have hg2 := qa1 hr3 2; have hg3 := qa1 hr3 3; have hd0 : _ = some (Value.int .u64 0) := (qa2 hr3 0).trans rfl; have hd1 : _ = some (Value.int .u64 0) := (qa2 hr3 1).trans rfl; have hd2 : _ = some (Value.int .u64 0) := (qa2 hr3 2).trans rfl; have hd3 : _ = some (Value.int .u64 0) := (qa2 hr3 3).trans rfl; clear hr3 hb3 hk3 HI2 HR2 HB2 HK2) | (go_at_call 83; refine (qcy.calls _ u1 u2 u3 u4 u5 _ HU.out).mono ?_; rintro e w4 ⟨rfl, hb4⟩; have hi_ := HI3.out.below hb4; have HR4 := qa0.mk (qae HR3.out hb4); have HB4 := qa0.mk (qca HB3.out HB3.out.size hb4); have HK4 := qa0.mk (qda HK3.out hb4); have HI4 := qa0.mk hi_; obtain ⟨HG, hg⟩ := hi_; clear hc0 hc1 hc2 hf0 hf1 hf2; have hc0 := qaz HG; have hc1 := qb2 HG; have hc2 := qb1 HG; have hf0 := qa1 HG 0; have hf1 := qa1 HG 1; have hf2 := qa1 HG 2; clear HG hg; have hr3 := HR4.out; unfold qav at hr3; clear hg0 hg1 hg2 hg3 hd0 hd1 hd2 hd3; have hg0 := qa1 hr3 0; have hg1 := qa1 hr3 1; have hg2 := qa1 hr3 2; have hg3 := qa1 hr3 3; have hd0 : _ = some (Value.int .u64 0) := (qa2 hr3 0).trans rfl; have hd1 : _ = some (Value.int .u64 0) := (qa2 hr3 1).trans rfl; have hd2 : _ = some (Value.int .u64 0) := (qa2 hr3 2).trans rfl; have hd3 : _ = some (Value.int .u64 0) := (qa2 hr3 3).trans rfl; clear hr3 hb4 HI3 HR3 HB3 HK3))
   have hne : g ≠ w.heap.size := by have := HL.out; omega
   refine bodyPost_ret (qb3 (rs := [.cell 2 24, .tmp 3, .tmp 4]) rfl (by simp) (.cell w.heap.size _ _ (0, 0) _ rfl (set4 ((Below.heap_setCell _ ⟨g, 2, none⟩ _ _ (Ne.symm hne)).trans (set4 HR4.out _ _ _ _)) _ _ _ _) Try.underlying24 rfl (by kernel_rfl) (.tmp (.tmp .nil)))) rfl ?_
   exact ⟨rfl, ((((qak.far (qak.qdk ((((qak.far HI4.out hne _).far hne _).far hne _).far hne _) _) hne _).far hne _).far hne _).far hne _), (qa9 (qa9 (qa9 (qa9 (qa9 (qa9 (qa9 (qa9 (qa9 HB4.out HS.out) HS.out) HS.out) HS.out) (HI4.out).ge) HS.out) HS.out) HS.out) HS.out), (qas (qas (qas (qas (qax.set_ (qas (qas (qas (qas HK4.out (Nat.le_refl _) _ _) (Nat.le_refl _) _ _) (Nat.le_refl _) _ _) (Nat.le_refl _) _ _) 2 _) (Nat.le_refl _) _ _) (Nat.le_refl _) _ _) (Nat.le_refl _) _ _) (Nat.le_refl _) _ _)⟩
  have cm1 : (mk == 58) = false := beq_eq_false_iff_ne.2 cm
  have cm2 : (mk != 58) = true := bne_iff_ne.2 cm
  rw [if_neg cm] at hH
  clear cm
  by_cases cs : (nm.size : Int) = 1
  rotate_left
  ·have cs1 : ((nm.size : Int) == 1) = false := beq_eq_false_iff_ne.2 cs
   have cs2 : ((nm.size : Int) != 1) = true := bne_iff_ne.2 cs
   have cs3 : ¬ nm.size = 1 := by omega
   rw [if_neg cs] at hH
   simp only [Option.some.injEq, Prod.mk.injEq] at hH
   obtain ⟨rfl, rfl, rfl, rfl, rfl, rfl, rfl, rfl, rfl⟩ := hH
   clear cs
   have hne1 : ¬ g = w.heap.size := by have := HL.out; omega
   have hne2 : ¬ w.heap.size = g := by have := HL.out; omega
   go_wp2_with (go_at_call 82; refine (qby.calls g s0_0 s0_1 s0_2 _ _ _ _ _ w0 _ HM.out HI2.out HB2.out HN.out).mono ?_; rintro e w3 ⟨rfl, hi_, hb3, hk3⟩; have HB3 := qa0.mk hb3; have HK3 := qa0.mk (HK2.out.trans hk3 (.inl rfl)); have HR3 : qa0 (w3.heap[w.heap.size]? = some qav) := ⟨(hk3.2 w.heap.size (qam HR2.out) (by have := HL.out; omega) (by simp)).trans HR2.out⟩; have HI3 := qa0.mk hi_; obtain ⟨HG, hg⟩ := hi_; clear hc0 hc1 hc2 hf0 hf1 hf2; have hc0 := qaz HG; have hc1 := qb2 HG; have hc2 := qb1 HG; have hf0 := qa1 HG 0; have hf1 := qa1 HG 1; have hf2 := qa1 HG 2; clear HG hg; have hr3 := HR3.out; unfold qav at hr3; have hg0 := qa1 hr3 0; have hg1 := qa1 hr3 1; have hg2 := qa1 hr3 2; have hg3 := qa1 hr3 3; have hd0 : _ = some (Value.int .u64 0) := (qa2 hr3 0).trans rfl; have hd1 : _ = some (Value.int .u64 0) := (qa2 hr3 1).trans rfl; have hd2 : _ = some (Value.int .u64 0) := (qa2 hr3 2).trans rfl; have hd3 : _ = some (Value.int .u64 0) := (qa2 hr3 3).trans rfl; clear hr3 hb3 hk3 HI2 HR2 HB2 HK2)
   have hne : g ≠ w.heap.size := by have := HL.out; omega
   refine bodyPost_ret (qb3 (rs := [.cell 2 24, .tmp 3, .tmp 4]) rfl (by simp) (.cell w.heap.size _ _ (0, 0) _ rfl (set4 ((Below.heap_setCell w3 ⟨g, 2, none⟩ _ _ (Ne.symm hne)).trans HR3.out) _ _ _ _) Try.underlying24 rfl (by kernel_rfl) (.tmp (.tmp .nil)))) rfl ?_
   exact ⟨rfl, ((((qak.far (qak.qdk HI3.out 8) hne _).far hne _).far hne _).far hne _), (qa9 (qa9 (qa9 (qa9 (qa9 HB3.out HI3.out.ge) HS.out) HS.out) HS.out) HS.out), (qas (qas (qas (qas (qax.set_ HK3.out 2 _) (Nat.le_refl _) _ _) (Nat.le_refl _) _ _) (Nat.le_refl _) _ _) (Nat.le_refl _) _ _)⟩
  ·have cs1 : ((nm.size : Int) == 1) = true := beq_iff_eq.2 cs
   have cs2 : ((nm.size : Int) != 1) = false := bne_eq_false_iff_eq.2 cs
   have cs3 : nm.size = 1 := by omega
   have pz : ((0 : Int) < (nm.size : Int)) = True := eq_true (by omega)
   have hxz : ∀ h : 0 < nm.size, ((nm[0]'h).toNat : Int) = bt nm 0 := fun h => qbz nm 0 h
   rw [if_pos cs] at hH
   obtain ⟨⟨u1, u2, u3, u4⟩, hu, hH⟩ := Option.bind_eq_some_iff.1 hH
   have HU := qa0.mk hu
   simp only [Option.some.injEq, Prod.mk.injEq] at hH
   obtain ⟨rfl, rfl, rfl, rfl, rfl, rfl, rfl, rfl, rfl⟩ := hH
   clear cs hu
   go_wp2_with (go_at_call 82; refine (qby.calls g s0_0 s0_1 s0_2 _ _ _ _ _ w0 _ HM.out HI2.out HB2.out HN.out).mono ?_; rintro e w3 ⟨rfl, hi_, hb3, hk3⟩; have HB3 := qa0.mk hb3; have HK3 := qa0.mk (HK2.out.trans hk3 (.inl rfl)); have HR3 : qa0 (w3.heap[w.heap.size]? = some qav) := ⟨(hk3.2 w.heap.size (qam HR2.out) (by have := HL.out; omega) (by simp)).trans HR2.out⟩; have HI3 := qa0.mk hi_; obtain ⟨HG, hg⟩ := hi_; clear hc0 hc1 hc2 hf0 hf1 hf2; have hc0 := qaz HG; have hc1 := qb2 HG; have hc2 := qb1 HG; have hf0 := qa1 HG 0; have hf1 := qa1 HG 1; have hf2 := qa1 HG 2; clear HG hg; have hr3 := HR3.out; unfold qav at hr3; have hg0 := qa1 hr3 0; have hg1 := qa1 hr3 1; have hg2 := qa1 hr3 2; have hg3 := qa1 hr3 3; have hd0 : _ = some (Value.int .u64 0) := (qa2 hr3 0).trans rfl; have hd1 : _ = some (Value.int .u64 0) := (qa2 hr3 1).trans rfl; have hd2 : _ = some (Value.int .u64 0) := (qa2 hr3 2).trans rfl; have hd3 : _ = some (Value.int .u64 0) := (qa2 hr3 3).trans rfl; clear hr3 hb3 hk3 HI2 HR2 HB2 HK2)
   refine qe1 (n := 9) (S := fun w' => True) (ds := []) #[false, false, false, false, false, false, false, false, false] (by kernel_rfl) rfl rfl trivial (fun hHeld => ?_)
   refine qd4 item_tab6 item_bits6 (fun HT_ HW_ => ?_)
   clear hc0 hc1 hc2 hf0 hf1 hf2 hg0 hg1 hg2 hg3 hd0 hd1 hd2 hd3
   generalize hW : World.drew _ = W4 at hHeld ⊢
   have HI4 : qa0 (qak w0 W4 g s9 p9 0) := by subst hW; exact ⟨HI3.out.drew⟩
   have HR4 : qa0 (W4.heap[w.heap.size]? = some qav) := by subst hW; exact ⟨qa5 HR3.out⟩
   have HB4 : qa0 (Below w0.heap.size w0 W4) := by subst hW; exact ⟨qa8 HB3.out⟩
   have HK4 : qa0 (qax w W4 g none) := by subst hW; exact ⟨qf0 HK3.out⟩
   clear hW HI3 HR3 HB3 HK3
   refine qe6 [0, 1, 2, 3, 4, 5, 6, 7, 8] (fun a0_ b_ a w' => a = qb0 a0_ b_ [(0, 70, .string nm), (1, 71, .agg #[.int .u64 u1, .int .u64 u2, .int .u64 u3, .int .u64 u4]), (2, 72, .string nm), (3, 73, .int .u8 (bt nm 0)), (4, 74, .int .u8 mk), (5, 75, .bool (mk == 46)), (7, 3, .int .u8 (bt nm 0)), (8, 4, .bool (mk == 46))] ∧ qak w0 w' g s9 p9 0 ∧ Below w0.heap.size w0 w' ∧ qax w w' g none ∧ (b_ 6 = false → w'.heap[w.heap.size]? = some qav) ∧ (b_ 6 = true → w'.heap[w.heap.size]? = some (.cells #[.int .u64 u1, .int .u64 u2, .int .u64 u3, .int .u64 u4] 24 (0, 0)))) HT_.out HW_.out (by kernel_rfl) (by kernel_rfl) ?_ ?_ ?_
   ·exact ⟨by simp only [qb0, Bool.false_eq_true, if_false], HI4.out, HB4.out, HK4.out, (fun _ => HR4.out), (fun h => by cases h)⟩
   ·skip
    refine qab ?_ ?_
    ·rintro b_ a w' ⟨ha, hI, hB, hK, hz, hu⟩ hb_ hon hoff
     refine ⟨_, rfl, fun K hK_ => ?_⟩
     have e5 : a.tmps[5]? = some (.string nm) := by rw [ha]; exact (qb4 rfl).trans rfl
     replace ha := qa0.mk ha
     refine qar (w1 := w') (v := .string nm) (by rfl) rfl (by go_simp; try rfl) ?_
     exact hK_.out _ _ ⟨by rw [ha.out]; exact qac 0 hb_ rfl rfl rfl, hI, hB, hK, hz, hu⟩
    refine qab ?_ ?_
    ·rintro b_ a w' ⟨ha, hI, hB, hK, hz, hu⟩ hb_ hon hoff
     refine ⟨_, rfl, fun K hK_ => ?_⟩
     have e70 : a.tmps[70]? = some (.string nm) := by rw [ha]; exact qaf (e := (0, 70, .string nm)) 0 rfl rfl (hon 0 (by kernel_rfl)) rfl
     refine qhb Try.func67 (by kernel_rfl) rfl #[.string nm] (by rfl) rfl rfl (by simp only [List.map_toArray, List.map_cons, List.map_nil, Act.eval, Array.getD_eq_getD_getElem?, e70, Option.getD_some]) ?_
     refine (qcz.calls nm u1 u2 u3 u4 _ HU.out).mono ?_
     rintro e' w10 ⟨rfl, hb1⟩
     refine ⟨_, rfl, ?_⟩
     exact hK_.out _ _ ⟨by rw [ha]; exact qac 1 hb_ rfl rfl rfl, hI.below hb1, qca hB hB.size hb1, qda hK hb1, (fun h => qae (hz h) hb1), (fun h => qae (hu h) hb1)⟩
    refine qab ?_ ?_
    ·rintro b_ a w' ⟨ha, hI, hB, hK, hz, hu⟩ hb_ hon hoff
     refine ⟨_, rfl, fun K hK_ => ?_⟩
     have e5 : a.tmps[5]? = some (.string nm) := by rw [ha]; exact (qb4 rfl).trans rfl
     replace ha := qa0.mk ha
     refine qar (w1 := w') (v := .string nm) (by rfl) rfl (by go_simp; try rfl) ?_
     exact hK_.out _ _ ⟨by rw [ha.out]; exact qac 2 hb_ rfl rfl rfl, hI, hB, hK, hz, hu⟩
    refine qab ?_ ?_
    ·rintro b_ a w' ⟨ha, hI, hB, hK, hz, hu⟩ hb_ hon hoff
     refine ⟨_, rfl, fun K hK_ => ?_⟩
     have e72 : a.tmps[72]? = some (.string nm) := by rw [ha]; exact qaf (e := (2, 72, .string nm)) 2 rfl rfl (hon 2 (by kernel_rfl)) rfl
     replace ha := qa0.mk ha
     refine qar (w1 := w') (v := .int .u8 (bt nm 0)) (by rfl) rfl (by go_simp; first | done | rfl | exact hxz _) ?_
     exact hK_.out _ _ ⟨by rw [ha.out]; exact qac 3 hb_ rfl rfl rfl, hI, hB, hK, hz, hu⟩
    refine qab ?_ ?_
    ·rintro b_ a w' ⟨ha, hI, hB, hK, hz, hu⟩ hb_ hon hoff
     refine ⟨_, rfl, fun K hK_ => ?_⟩
     have e6 : a.tmps[6]? = some (.int .u8 mk) := by rw [ha]; exact (qb4 rfl).trans rfl
     replace ha := qa0.mk ha
     refine qar (w1 := w') (v := .int .u8 mk) (by rfl) rfl (by go_simp; try rfl) ?_
     exact hK_.out _ _ ⟨by rw [ha.out]; exact qac 4 hb_ rfl rfl rfl, hI, hB, hK, hz, hu⟩
    refine qab ?_ ?_
    ·rintro b_ a w' ⟨ha, hI, hB, hK, hz, hu⟩ hb_ hon hoff
     refine ⟨_, rfl, fun K hK_ => ?_⟩
     have e74 : a.tmps[74]? = some (.int .u8 mk) := by rw [ha]; exact qaf (e := (4, 74, .int .u8 mk)) 4 rfl rfl (hon 4 (by kernel_rfl)) rfl
     replace ha := qa0.mk ha
     refine qar (w1 := w') (v := .bool (mk == 46)) (by rfl) rfl (by go_simp; try rfl) ?_
     exact hK_.out _ _ ⟨by rw [ha.out]; exact qac 5 hb_ rfl rfl rfl, hI, hB, hK, hz, hu⟩
    refine qab ?_ ?_
    ·rintro b_ a w' ⟨ha, hI, hB, hK, hz, hu⟩ hb_ hon hoff
     refine ⟨_, rfl, fun K hK_ => ?_⟩
     have e2 : a.tmps[2]? = some (.pointer (some ⟨w.heap.size, 0, none⟩)) := by rw [ha]; exact (qb4 rfl).trans rfl
     have e71 : a.tmps[71]? = some (.agg #[.int .u64 u1, .int .u64 u2, .int .u64 u3, .int .u64 u4]) := by rw [ha]; exact qaf (e := (1, 71, .agg #[.int .u64 u1, .int .u64 u2, .int .u64 u3, .int .u64 u4])) 1 rfl rfl (hon 1 (by kernel_rfl)) rfl
     replace ha := qa0.mk ha
     have hzz := hz hb_
     have hr3 := hzz
     unfold qav at hr3
     have hg0 := qa1 hr3 0
     have hd0 : _ = some (Value.int .u64 0) := (qa2 hr3 0).trans rfl
     have hg1 := qa1 hr3 1
     have hd1 : _ = some (Value.int .u64 0) := (qa2 hr3 1).trans rfl
     have hg2 := qa1 hr3 2
     have hd2 : _ = some (Value.int .u64 0) := (qa2 hr3 2).trans rfl
     have hg3 := qa1 hr3 3
     have hd3 : _ = some (Value.int .u64 0) := (qa2 hr3 3).trans rfl
     clear hr3
     have hne : g ≠ w.heap.size := by have := HL.out; omega
     refine qgg (w1 := (((w'.setCell ⟨w.heap.size, 0, none⟩ (.int .u64 u1)).setCell ⟨w.heap.size, 1, none⟩ (.int .u64 u2)).setCell ⟨w.heap.size, 2, none⟩ (.int .u64 u3)).setCell ⟨w.heap.size, 3, none⟩ (.int .u64 u4)) (by rfl) rfl (by go_simp; try rfl) ?_
     exact hK_.out _ _ ⟨by rw [ha.out]; exact (qd1 rfl).symm, ((((hI.far hne _).far hne _).far hne _).far hne _), (qa9 (qa9 (qa9 (qa9 hB HS.out) HS.out) HS.out) HS.out), (qas (qas (qas (qas hK (Nat.le_refl _) _ _) (Nat.le_refl _) _ _) (Nat.le_refl _) _ _) (Nat.le_refl _) _ _), (fun h => by cases h), (fun _ => set4 hzz _ _ _ _)⟩
    refine qab ?_ ?_
    ·rintro b_ a w' ⟨ha, hI, hB, hK, hz, hu⟩ hb_ hon hoff
     refine ⟨_, rfl, fun K hK_ => ?_⟩
     have e73 : a.tmps[73]? = some (.int .u8 (bt nm 0)) := by rw [ha]; exact qaf (e := (3, 73, .int .u8 (bt nm 0))) 3 rfl rfl (hon 3 (by kernel_rfl)) rfl
     replace ha := qa0.mk ha
     refine qar (w1 := w') (v := .int .u8 (bt nm 0)) (by rfl) rfl (by go_simp; try rfl) ?_
     exact hK_.out _ _ ⟨by rw [ha.out]; exact qac 6 hb_ rfl rfl rfl, hI, hB, hK, hz, hu⟩
    refine qab ?_ ?_
    ·rintro b_ a w' ⟨ha, hI, hB, hK, hz, hu⟩ hb_ hon hoff
     refine ⟨_, rfl, fun K hK_ => ?_⟩
     have e75 : a.tmps[75]? = some (.bool (mk == 46)) := by rw [ha]; exact qaf (e := (5, 75, .bool (mk == 46))) 5 rfl rfl (hon 5 (by kernel_rfl)) rfl
     replace ha := qa0.mk ha
     refine qar (w1 := w') (v := .bool (mk == 46)) (by rfl) rfl (by go_simp; try rfl) ?_
     exact hK_.out _ _ ⟨by rw [ha.out]; exact qac 7 hb_ rfl rfl rfl, hI, hB, hK, hz, hu⟩
    exact qd8
   ·rintro b_ a w' hall ⟨ha, hI, hB, hK, hz, hu⟩
    have hb0_ := hall 0 (by kernel_rfl)
    have hb1_ := hall 1 (by kernel_rfl)
    have hb2_ := hall 2 (by kernel_rfl)
    have hb3_ := hall 3 (by kernel_rfl)
    have hb4_ := hall 4 (by kernel_rfl)
    have hb5_ := hall 5 (by kernel_rfl)
    have hb6_ := hall 6 (by kernel_rfl)
    have hb7_ := hall 7 (by kernel_rfl)
    have hb8_ := hall 8 (by kernel_rfl)
    subst ha
    have hr := hu hb6_
    simp only [qb0, hb0_, hb1_, hb2_, hb3_, hb4_, hb5_, hb7_, hb8_, if_true, Act.put, List.setIfInBounds_toArray, List.set_cons_zero, List.set_cons_succ]
    clear hall hz hu hHeld HT_ HW_ HI4 HR4 HB4 HK4 hb0_ hb1_ hb2_ hb3_ hb4_ hb5_ hb6_ hb7_ hb8_
    have HZ := qa0.mk (And.intro hI (And.intro hB (And.intro hK hr)))
    clear hI hB hK hr
    go_wp2
    refine bodyPost_ret (qb3 (rs := [.cell 2 24, .tmp 3, .tmp 4]) rfl (by simp) (.cell w.heap.size _ _ (0, 0) _ rfl HZ.out.2.2.2 Try.underlying24 rfl (by kernel_rfl) (.tmp (.tmp .nil)))) rfl ?_
    exact ⟨rfl, HZ.out.1, HZ.out.2.1, HZ.out.2.2.1⟩
end Go.Proofs.Ytcmipoicnonaeaa.F
end
section
namespace Go.Proofs.Ytcmipoicnonaeaa.F
open Go.RowKit Go.Proofs.YtcmipoicnonaeaaW.PrintWords Go.Proofs.YtcmipoicnonaeaaW.PrintLast Go.Proofs.YtcmipoicnonaeaaW.PrintMore
attribute [local go_sem] qbs qbr qc7 qc0 qbh qbj qbp qbq
set_option linter.unusedVariables false
set_option linter.unusedSimpArgs false
def qay.f (s0_0 : ByteArray) (s0_1 : Int) (s0_2 : Int) : Option (Bool × ByteArray × Int × Int) := if s0_1 < (s0_0.size : Int) then (if 0 ≤ s0_1 then (if (bt s0_0 s0_1) = 45 then (if (wrap64 (s0_1 + 1)) ≥ (s0_0.size : Int) then (some (true, s0_0, s0_1, s0_2)) else (if 0 ≤ (wrap64 (s0_1 + 1)) then (if (wrap64 (s0_1 + 1)) < (s0_0.size : Int) then (some (((bt s0_0 (wrap64 (s0_1 + 1))) != 93), s0_0, s0_1, s0_2)) else (none)) else (none))) else (some (false, s0_0, s0_1, s0_2))) else (none)) else (some (false, s0_0, s0_1, s0_2))
set_option maxHeartbeats 8000000 in
set_option maxRecDepth 100000 in
theorem qay.calls (g : Nat) (s0_0 : ByteArray) (s0_1 : Int) (s0_2 : Int) (r1 : Bool) (r2 : ByteArray) (r3 : Int) (r4 : Int) (w0 w : World) (hI : qak w0 w g s0_0 s0_1 s0_2) (hB : Below w0.heap.size w0 w) (h : qay.f s0_0 s0_1 s0_2 = some (r1, r2, r3, r4)) :
  Calls Try.prog 75 #[.pointer (some ⟨g, 0, none⟩)] w fun e w' => e = .returned (.bool r1) ∧ qak w0 w' g r2 r3 r4 ∧ Below w0.heap.size w0 w' ∧ qax w w' g none := by
 have HI0 := qa0.mk hI
 have HK := qa0.mk (qax.refl w g none)
 have HL := qa0.mk hB.size
 clear hI
 have HW0 := qa0.mk hB.size
 have HB := qa0.mk hB
 clear hB
 have H : (if s0_1 < (s0_0.size : Int) then (if 0 ≤ s0_1 then (if (bt s0_0 s0_1) = 45 then (if (wrap64 (s0_1 + 1)) ≥ (s0_0.size : Int) then (some (true, s0_0, s0_1, s0_2)) else (if 0 ≤ (wrap64 (s0_1 + 1)) then (if (wrap64 (s0_1 + 1)) < (s0_0.size : Int) then (some (((bt s0_0 (wrap64 (s0_1 + 1))) != 93), s0_0, s0_1, s0_2)) else (none)) else (none))) else (some (false, s0_0, s0_1, s0_2))) else (none)) else (some (false, s0_0, s0_1, s0_2))) = some (r1, r2, r3, r4) := h
 clear h
 by_cases c2 : s0_1 < (s0_0.size : Int)
 ·rw [if_pos c2] at H
  have c2b0 : decide (s0_1 < (s0_0.size : Int)) = true := decide_eq_true c2
  clear c2
  by_cases c3 : 0 ≤ s0_1
  ·rw [if_pos c3] at H
   have c3b0 : decide (0 ≤ s0_1) = true := decide_eq_true c3
   clear c3
   by_cases c5 : (bt s0_0 s0_1) = 45
   ·rw [if_pos c5] at H
    have c5b0 : ((bt s0_0 s0_1) == 45) = true := beq_iff_eq.mpr c5
    have c5b1 : ((bt s0_0 s0_1) != 45) = false := bne_eq_false_iff_eq.mpr c5
    clear c5
    by_cases c6 : (wrap64 (s0_1 + 1)) ≥ (s0_0.size : Int)
    ·rw [if_pos c6] at H
     have c6b0 : decide ((s0_0.size : Int) ≤ (wrap64 (s0_1 + 1))) = true := decide_eq_true c6
     clear c6
     simp only [Option.some.injEq, Prod.mk.injEq] at H
     obtain ⟨rfl, rfl, rfl, rfl⟩ := H
     obtain ⟨HGz7, hgz7⟩ := HI0.out
     have hcz7_0 := qaz HGz7
     have hcz7_1 := qb2 HGz7
     have hcz7_2 := qb1 HGz7
     have hfz7_0 := qa1 HGz7 0
     have hfz7_1 := qa1 HGz7 1
     have hfz7_2 := qa1 HGz7 2
     clear HGz7 hgz7
     have p4 : 0 ≤ (s0_1 : Int) := of_decide_eq_true (by first | (with_reducible assumption) | assumption)
     have q4 : s0_1 < (s0_0.size : Int) := of_decide_eq_true (by first | (with_reducible assumption) | assumption)
     have hx4 := qbz s0_0 s0_1
     replace p4 := eq_true p4
     replace q4 := eq_true q4
     go_enter Try.func75, Try.ntmps75
     go_wp2
     repeat (go_quiet (fail); try go_wp2)
     go_ret
     exact ⟨by first | rfl | (simp only [wrap_wrap]; done) | (simp only [wrap_wrap]; rfl) | (simp [qah, qai] <;> rfl) | (simp [*, qah, qai] <;> rfl), by repeat (first | (with_reducible first | exact HI0.out | apply qak.alloc | apply qak.drewN | apply qak.drew | apply qak.set_0 | apply qak.qdv | apply qak.qdk) | exact HI0.out), by repeat (first | (with_reducible first | exact HB.out | apply qa6 | apply qa7 | apply qa8 | refine qa9 ?_ (qak.ge HI0.out)) | exact HB.out), by repeat (first | (with_reducible first | exact HK.out | apply qax.set_ | apply qcb | apply qf0 | apply qbf) | exact HK.out)⟩
    ·rw [if_neg c6] at H
     have c6b0 : decide ((s0_0.size : Int) ≤ (wrap64 (s0_1 + 1))) = false := decide_eq_false c6
     clear c6
     obtain ⟨ji8, hji8⟩ : ∃ j_ : Int, (wrap64 (s0_1 + 1)) = j_ := ⟨_, rfl⟩
     replace H : (if 0 ≤ (ji8) then (if (ji8) < (s0_0.size : Int) then (some (((bt s0_0 (ji8)) != 93), s0_0, s0_1, s0_2)) else (none)) else (none)) = some (r1, r2, r3, r4) := by first | (rw [hji8] at H; exact H) | (simp only [hji8] at H ⊢; exact H)
     (try rw [hji8] at c6b0)
     have hji8w : (IntKind.i64.wrap (s0_1 + 1)) = ji8 := (qbk _).trans hji8
     by_cases c9 : 0 ≤ (ji8)
     ·rw [if_pos c9] at H
      have c9b0 : decide (0 ≤ (ji8)) = true := decide_eq_true c9
      clear c9
      by_cases c10 : (ji8) < (s0_0.size : Int)
      ·rw [if_pos c10] at H
       have c10b0 : decide ((ji8) < (s0_0.size : Int)) = true := decide_eq_true c10
       clear c10
       simp only [Option.some.injEq, Prod.mk.injEq] at H
       obtain ⟨rfl, rfl, rfl, rfl⟩ := H
       obtain ⟨HGz12, hgz12⟩ := HI0.out
       have hcz12_0 := qaz HGz12
       have hcz12_1 := qb2 HGz12
       have hcz12_2 := qb1 HGz12
       have hfz12_0 := qa1 HGz12 0
       have hfz12_1 := qa1 HGz12 1
       have hfz12_2 := qa1 HGz12 2
       clear HGz12 hgz12
       have p4 : 0 ≤ (s0_1 : Int) := of_decide_eq_true (by first | (with_reducible assumption) | assumption)
       have q4 : s0_1 < (s0_0.size : Int) := of_decide_eq_true (by first | (with_reducible assumption) | assumption)
       have hx4 := qbz s0_0 s0_1
       replace p4 := eq_true p4
       replace q4 := eq_true q4
       have p11 : 0 ≤ ((ji8) : Int) := of_decide_eq_true (by first | (with_reducible assumption) | assumption)
       have q11 : (ji8) < (s0_0.size : Int) := of_decide_eq_true (by first | (with_reducible assumption) | assumption)
       have hx11 := qbz s0_0 (ji8)
       replace p11 := eq_true p11
       replace q11 := eq_true q11
       go_enter Try.func75, Try.ntmps75
       go_wp2
       repeat (go_quiet (fail); try go_wp2)
       go_ret
       exact ⟨by first | rfl | (simp only [wrap_wrap]; done) | (simp only [wrap_wrap]; rfl) | (simp [qah, qai] <;> rfl) | (simp only [← hji8]; first | rfl | (simp [qah, qai] <;> rfl)) | (simp [*, qah, qai] <;> rfl), by repeat (first | (with_reducible first | exact HI0.out | apply qak.alloc | apply qak.drewN | apply qak.drew | apply qak.set_0 | apply qak.qdv | apply qak.qdk) | exact HI0.out), by repeat (first | (with_reducible first | exact HB.out | apply qa6 | apply qa7 | apply qa8 | refine qa9 ?_ (qak.ge HI0.out)) | exact HB.out), by repeat (first | (with_reducible first | exact HK.out | apply qax.set_ | apply qcb | apply qf0 | apply qbf) | exact HK.out)⟩
      ·rw [if_neg c10] at H
       exact absurd H (by simp)
     ·rw [if_neg c9] at H
      exact absurd H (by simp)
   ·rw [if_neg c5] at H
    have c5b0 : ((bt s0_0 s0_1) == 45) = false := beq_eq_false_iff_ne.mpr c5
    have c5b1 : ((bt s0_0 s0_1) != 45) = true := bne_iff_ne.mpr c5
    simp only [Option.some.injEq, Prod.mk.injEq] at H
    obtain ⟨rfl, rfl, rfl, rfl⟩ := H
    obtain ⟨HGz13, hgz13⟩ := HI0.out
    have hcz13_0 := qaz HGz13
    have hcz13_1 := qb2 HGz13
    have hcz13_2 := qb1 HGz13
    have hfz13_0 := qa1 HGz13 0
    have hfz13_1 := qa1 HGz13 1
    have hfz13_2 := qa1 HGz13 2
    clear HGz13 hgz13
    have p4 : 0 ≤ (s0_1 : Int) := of_decide_eq_true (by first | (with_reducible assumption) | assumption)
    have q4 : s0_1 < (s0_0.size : Int) := of_decide_eq_true (by first | (with_reducible assumption) | assumption)
    have hx4 := qbz s0_0 s0_1
    replace p4 := eq_true p4
    replace q4 := eq_true q4
    go_enter Try.func75, Try.ntmps75
    go_wp2
    repeat (go_quiet (fail); try go_wp2)
    go_ret
    exact ⟨by first | rfl | (simp only [wrap_wrap]; done) | (simp only [wrap_wrap]; rfl) | (simp [qah, qai] <;> rfl) | (simp [*, qah, qai] <;> rfl), by repeat (first | (with_reducible first | exact HI0.out | apply qak.alloc | apply qak.drewN | apply qak.drew | apply qak.set_0 | apply qak.qdv | apply qak.qdk) | exact HI0.out), by repeat (first | (with_reducible first | exact HB.out | apply qa6 | apply qa7 | apply qa8 | refine qa9 ?_ (qak.ge HI0.out)) | exact HB.out), by repeat (first | (with_reducible first | exact HK.out | apply qax.set_ | apply qcb | apply qf0 | apply qbf) | exact HK.out)⟩
  ·rw [if_neg c3] at H
   exact absurd H (by simp)
 ·rw [if_neg c2] at H
  have c2b0 : decide (s0_1 < (s0_0.size : Int)) = false := decide_eq_false c2
  clear c2
  simp only [Option.some.injEq, Prod.mk.injEq] at H
  obtain ⟨rfl, rfl, rfl, rfl⟩ := H
  obtain ⟨HGz14, hgz14⟩ := HI0.out
  have hcz14_0 := qaz HGz14
  have hcz14_1 := qb2 HGz14
  have hcz14_2 := qb1 HGz14
  have hfz14_0 := qa1 HGz14 0
  have hfz14_1 := qa1 HGz14 1
  have hfz14_2 := qa1 HGz14 2
  clear HGz14 hgz14
  go_enter Try.func75, Try.ntmps75
  go_wp2
  repeat (go_quiet (fail); try go_wp2)
  go_ret
  exact ⟨by first | rfl | (simp only [wrap_wrap]; done) | (simp only [wrap_wrap]; rfl) | (simp [qah, qai] <;> rfl) | (simp [*, qah, qai] <;> rfl), by repeat (first | (with_reducible first | exact HI0.out | apply qak.alloc | apply qak.drewN | apply qak.drew | apply qak.set_0 | apply qak.qdv | apply qak.qdk) | exact HI0.out), by repeat (first | (with_reducible first | exact HB.out | apply qa6 | apply qa7 | apply qa8 | refine qa9 ?_ (qak.ge HI0.out)) | exact HB.out), by repeat (first | (with_reducible first | exact HK.out | apply qax.set_ | apply qcb | apply qf0 | apply qbf) | exact HK.out)⟩
end Go.Proofs.Ytcmipoicnonaeaa.F
end
section
namespace Go.Proofs.Ytcmipoicnonaeaa.F
open Go.RowKit Go.Proofs.YtcmipoicnonaeaaW.PrintWords Go.Proofs.YtcmipoicnonaeaaW.PrintLast Go.Proofs.YtcmipoicnonaeaaW.PrintMore
set_option linter.unusedVariables false
set_option linter.unusedSimpArgs false
def qe8 : Nat → Int → Int × Int × Int × Int → Int × Int × Int × Int
  | 0, _, s => s
  | n + 1, b, s => qe8 n (b + 1) (qcp s.1 0 b, qcp s.2.1 1 b, qcp s.2.2.1 2 b, qcp s.2.2.2 3 b)
def spanS (a0 a1 : Int) : Int × Int × Int × Int × Int :=
  if a1 < a0 then (0, 0, 0, 0, 7) else ((qe8 (a1 - a0 + 1).toNat a0 (0, 0, 0, 0)).1, (qe8 (a1 - a0 + 1).toNat a0 (0, 0, 0, 0)).2.1, (qe8 (a1 - a0 + 1).toNat a0 (0, 0, 0, 0)).2.2.1, (qe8 (a1 - a0 + 1).toNat a0 (0, 0, 0, 0)).2.2.2, 0)
def qcq.f (a0 a1 : Int) : Option (Int × Int × Int × Int × Int) := if 0 ≤ a0 ∧ a0 < 256 ∧ 0 ≤ a1 ∧ a1 < 256 then some (spanS a0 a1) else none
set_option maxHeartbeats 2000000 in
set_option maxRecDepth 100000 in
theorem qcq.calls (a0 a1 : Int) (r1 r2 r3 r4 r5 : Int) (w : World) (h : qcq.f a0 a1 = some (r1, r2, r3, r4, r5)) :
    Calls Try.prog 76 #[.int .u8 a0, .int .u8 a1] w fun e w' => e = .returned (.tuple #[.agg #[.int .u64 r1, .int .u64 r2, .int .u64 r3, .int .u64 r4], .int .i64 r5]) ∧ Below w.heap.size w w' := by
  unfold qcq.f at h
  by_cases hs : 0 ≤ a0 ∧ a0 < 256 ∧ 0 ≤ a1 ∧ a1 < 256
  rotate_left
  · rw [if_neg hs] at h; cases h
  rw [if_pos hs] at h
  have h2 := Option.some.inj h
  unfold spanS at h2
  obtain ⟨b0, b1, b2, b3⟩ := hs
  by_cases hlt : a1 < a0
  · rw [if_pos hlt] at h2
    simp only [Prod.mk.injEq] at h2
    obtain ⟨rfl, rfl, rfl, rfl, rfl⟩ := h2
    have c1 : decide (a1 < a0) = true := decide_eq_true hlt
    clear h
    go_enter Try.func76, Try.ntmps76
    go_wp2
    refine bodyPost_ret (qb3 (rs := [.cell 4 24, .tmp 5]) rfl (by simp) (.cell w.heap.size _ #[.int .u64 0, .int .u64 0, .int .u64 0, .int .u64 0] (0, 0) _ rfl (qa3 (qat _ _) _) Try.underlying24 rfl (by kernel_rfl) (.tmp .nil))) rfl ?_
    exact ⟨rfl, qa6 (qa6 (Below.refl _ _) _) _⟩
  rw [if_neg hlt] at h2
  simp only [Prod.mk.injEq] at h2
  have H := qa0.mk (show qe8 (a1 - a0 + 1).toNat a0 (0, 0, 0, 0) = (r1, r2, r3, r4) from by rw [← h2.1, ← h2.2.1, ← h2.2.2.1, ← h2.2.2.2.1])
  obtain rfl := h2.2.2.2.2
  have c1 : decide (a1 < a0) = false := decide_eq_false hlt
  have hge : a0 ≤ a1 := by omega
  have hw0 : IntKind.i64.wrap a0 = a0 := by rw [qbk]; exact qbt (by omega) (by omega)
  have hw1 : IntKind.i64.wrap a1 = a1 := by rw [qbk]; exact qbt (by omega) (by omega)
  clear h h2 hlt
  go_enter Try.func76, Try.ntmps76
  go_wp2
  have HR : qa0 (((w.alloc (.cells #[.int .u64 0, .int .u64 0, .int .u64 0, .int .u64 0] 24 (0, 0))).alloc (.cells #[.int .u64 0, .int .u64 0, .int .u64 0, .int .u64 0] 24 (0, 0))).heap[w.heap.size]? = some (.cells #[.int .u64 0, .int .u64 0, .int .u64 0, .int .u64 0] 24 (0, 0))) := ⟨qa3 (qat w _) _⟩
  have HS : qa0 (((w.alloc (.cells #[.int .u64 0, .int .u64 0, .int .u64 0, .int .u64 0] 24 (0, 0))).alloc (.cells #[.int .u64 0, .int .u64 0, .int .u64 0, .int .u64 0] 24 (0, 0))).heap[w.heap.size + 1]? = some (.cells #[.int .u64 0, .int .u64 0, .int .u64 0, .int .u64 0] 24 (0, 0))) := ⟨by rw [← World.size_alloc]; exact qat _ _⟩
  have HB : qa0 (Below w.heap.size w ((w.alloc (.cells #[.int .u64 0, .int .u64 0, .int .u64 0, .int .u64 0] 24 (0, 0))).alloc (.cells #[.int .u64 0, .int .u64 0, .int .u64 0, .int .u64 0] 24 (0, 0)))) := ⟨qa6 (qa6 (Below.refl _ _) _) _⟩
  go_loopg [7] (a1 - a0 + 1).toNat (fun gk v7 wr => ∃ (i : Int) (s : Int × Int × Int × Int), v7 = .int .i64 i ∧ 0 ≤ i ∧ i + gk = a1 + 1 ∧ qa0 (qe8 gk i s = (r1, r2, r3, r4)) ∧ qa0 (wr.heap[w.heap.size]? = some (.cells #[.int .u64 0, .int .u64 0, .int .u64 0, .int .u64 0] 24 (0, 0))) ∧ qa0 (wr.heap[w.heap.size + 1]? = some (.cells #[.int .u64 s.1, .int .u64 s.2.1, .int .u64 s.2.2.1, .int .u64 s.2.2.2] 24 (0, 0))) ∧ qa0 (Below w.heap.size w wr))
  case atStart => exact ⟨a0, (0, 0, 0, 0), rfl, b0, by omega, H, HR, HS, HB⟩
  case round =>
    clear H HR HS HB
    obtain ⟨i, s, rfl, h0, hi, HE, HR, HS, HB⟩ := hrel
    cases gk with
    | zero =>
      have c2 : decide (i ≤ a1) = false := decide_eq_false (by omega)
      have hE := HE.out
      rw [qe8] at hE
      subst hE
      clear hi HE
      have q0 : _ = some (Value.int .u64 r1) := (qa2 HS.out 0).trans rfl
      have q1 : _ = some (Value.int .u64 r2) := (qa2 HS.out 1).trans rfl
      have q2 : _ = some (Value.int .u64 r3) := (qa2 HS.out 2).trans rfl
      have q3 : _ = some (Value.int .u64 r4) := (qa2 HS.out 3).trans rfl
      have p0 : _ = some (Value.int .u64 0) := (qa2 HR.out 0).trans rfl
      have p1 : _ = some (Value.int .u64 0) := (qa2 HR.out 1).trans rfl
      have p2 : _ = some (Value.int .u64 0) := (qa2 HR.out 2).trans rfl
      have p3 : _ = some (Value.int .u64 0) := (qa2 HR.out 3).trans rfl
      have f0 := qa1 HR.out 0
      have f1 := qa1 HR.out 1
      have f2 := qa1 HR.out 2
      have f3 := qa1 HR.out 3
      go_wp2
      refine bodyPost_ret (qb3 (rs := [.cell 4 24, .tmp 5]) rfl (by simp) (.cell w.heap.size _ _ (0, 0) _ rfl (set4 HR.out _ _ _ _) Try.underlying24 rfl (by kernel_rfl) (.tmp .nil))) rfl ?_
      exact ⟨rfl, qdm HB.out (Nat.le_refl _)⟩
    | succ gk =>
      have c2 : decide (i ≤ a1) = true := decide_eq_true (by omega)
      have hE := HE.out
      rw [qe8] at hE
      have HE2 := qa0.mk hE
      have HI := qa0.mk (And.intro h0 hi)
      have hiw : IntKind.u8.wrap i = i := by
        simp [IntKind.wrap, IntKind.bits, IntKind.signed]
        omega
      have hin : IntKind.i64.wrap (i + 1) = i + 1 := by rw [qbk]; exact qbt (by omega) (by omega)
      have HX := qa0.mk (show i < 256 by omega)
      clear hE HE hi h0 b0 b1 b2 b3 hge
      go_wp2_with (go_at_call 77; refine (qfh (w.heap.size + 1) s.1 s.2.1 s.2.2.1 s.2.2.2 _ _ HS.out HI.out.1 HX.out).mono ?_; rintro e w' ⟨rfl, hk', hg'⟩)
      go_roundg gk
      case rel => exact ⟨i + 1, _, rfl, by have := HI.out; omega, by have := HI.out; omega, HE2, ⟨qd0 HR.out hg' (by simp)⟩, ⟨hk'⟩, ⟨HB.out.grown hg' HB.out.size (fun k e => by cases e; omega)⟩⟩
      case measure => omega
end Go.Proofs.Ytcmipoicnonaeaa.F
end
