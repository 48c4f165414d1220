/- Texts of this claim, 10 of 29: Shelf, F87, S107, F82, F88, F83. -/
import Derived.Shelf.Small.Strs
import Derived.Shelf.Strings.Search1
import Derived.Shelf.Strings.Search2
import Derived.Shelf.Strings.Search3
import Derived.Shelf.LaysM
import Derived.Shelf.Strings.Shaped
import Derived.Test.YtcmipoicnonaeaaProg
import Derived.Test.YtcmipoicnonaeaaKS4
import Derived.Test.YtcmipoicnonaeaaKS6
import Derived.Test.YtcmipoicnonaeaaKS7
section
namespace Go.Proofs
open Go.Shelf
def Try.lays137_ren : Go.Shelf.Ren := ⟨fun | 137 => 81 | 217 => 86 | 266 => 91 | n => n, fun | 9 => 9 | 5 => 5 | 3 => 3 | n => n, fun | n => n⟩
theorem Try.lays137 : Go.Proofs.Lays.n137 Try.prog Try.lays137_ren := {
 mixed := by kernel_rfl
 f137 := Try.func81.trans (congrArg some (by kernel_rfl))
 f217 := Try.func86.trans (congrArg some (by kernel_rfl))
 f266 := Try.func91.trans (congrArg some (by kernel_rfl))
 t3 := Try.underlying3
 a3 := Try.isAgg3
 z3 := Try.sizeOf3
 v3 := Try.zeroValue3
 t5 := Try.underlying5
 a5 := Try.isAgg5
 z5 := Try.sizeOf5
 v5 := Try.zeroValue5
 t9 := Try.underlying9
 a9 := Try.isAgg9
 z9 := Try.sizeOf9
 v9 := Try.zeroValue9 }
open Go.RowKit in
theorem Try.strings_IndexByte (s : ByteArray) (c : Int) (w : World) :
  Calls Try.prog 81 #[.string s, .int .u8 c] w fun e w' => e = .returned (.int .i64 (Lib.indexByte s.data.toList c.toNat.toUInt8)) ∧ w' = w := Any.strings_IndexByte Try.lays137 s c w
def Try.lays219_ren : Go.Shelf.Ren := ⟨fun | 219 => 92 | 217 => 86 | 225 => 94 | 224 => 95 | 267 => 96 | 266 => 91 | 314 => 97 | n => n, fun | 9 => 9 | 3 => 3 | 4 => 4 | 5 => 5 | 46 => 87 | 146 => 141 | 51 => 140 | n => n, fun | 1 => 0 | n => n⟩
theorem Try.lays219 : Go.Proofs.Lays.n219 Try.prog Try.lays219_ren := {
 mixed := by kernel_rfl
 f217 := Try.func86.trans (congrArg some (by kernel_rfl))
 f219 := Try.func92.trans (congrArg some (by kernel_rfl))
 f224 := Try.func95.trans (congrArg some (by kernel_rfl))
 f225 := Try.func94.trans (congrArg some (by kernel_rfl))
 f266 := Try.func91.trans (congrArg some (by kernel_rfl))
 f267 := Try.func96.trans (congrArg some (by kernel_rfl))
 f314 := Try.func97.trans (congrArg some (by kernel_rfl))
 t3 := Try.underlying3
 a3 := Try.isAgg3
 z3 := Try.sizeOf3
 v3 := Try.zeroValue3
 t4 := Try.underlying4
 a4 := Try.isAgg4
 z4 := Try.sizeOf4
 v4 := Try.zeroValue4
 t5 := Try.underlying5
 a5 := Try.isAgg5
 z5 := Try.sizeOf5
 v5 := Try.zeroValue5
 t9 := Try.underlying9
 a9 := Try.isAgg9
 z9 := Try.sizeOf9
 v9 := Try.zeroValue9
 t46 := Try.underlying87
 a46 := Try.isAgg87
 z46 := Try.sizeOf87
 v46 := Try.zeroValue87
 t51 := Try.underlying140
 a51 := Try.isAgg140
 z51 := Try.sizeOf140
 v51 := Try.zeroValue140
 t146 := Try.underlying141
 a146 := Try.isAgg141
 z146 := Try.sizeOf141
 v146 := Try.zeroValue141
 g1 := by kernel_rfl }
open Go.RowKit Go.Lib in
theorem Try.stringslite_Index (s sub : ByteArray) (m : Int) (w : World) (hs : s.size < 4294967281) (hm : w.cell? ⟨0, 0, none⟩ = some (.int .i64 m)) :
  Calls Try.prog 92 #[.string s, .string sub] w fun e w' => e = .returned (.int .i64 (Lib.index s.data.toList sub.data.toList)) ∧ w' = w := Any.stringslite_Index Try.lays219 s sub m w hs hm
def Try.laysM219_ren : Go.Shelf.Ren := ⟨fun | 219 => 92 | 217 => 86 | 225 => 94 | 224 => 95 | 267 => 96 | 266 => 91 | 314 => 97 | n => n, fun | 9 => 9 | 3 => 3 | 4 => 4 | 5 => 5 | 46 => 87 | 146 => 141 | 51 => 140 | n => n, fun | 1 => 0 | n => n⟩
theorem Try.laysM219 : Go.Proofs.LaysM.n219 Try.prog Try.laysM219_ren := {
 mixed := by kernel_rfl
 f217 := Try.func86.trans (congrArg some (by kernel_rfl))
 f219 := Try.func92.trans (congrArg some (by kernel_rfl))
 f224 := Try.func95.trans (congrArg some (by kernel_rfl))
 f225 := Try.func94.trans (congrArg some (by kernel_rfl))
 f266 := Try.func91.trans (congrArg some (by kernel_rfl))
 f267 := Try.func96.trans (congrArg some (by kernel_rfl))
 f314 := Try.func97.trans (congrArg some (by kernel_rfl))
 t3 := Try.underlying3
 a3 := Try.isAgg3
 z3 := Try.sizeOf3
 v3 := Try.zeroValue3
 t4 := Try.underlying4
 a4 := Try.isAgg4
 z4 := Try.sizeOf4
 v4 := Try.zeroValue4
 t5 := Try.underlying5
 a5 := Try.isAgg5
 z5 := Try.sizeOf5
 v5 := Try.zeroValue5
 t9 := Try.underlying9
 a9 := Try.isAgg9
 z9 := Try.sizeOf9
 v9 := Try.zeroValue9
 t46 := Try.underlying87
 a46 := Try.isAgg87
 z46 := Try.sizeOf87
 v46 := Try.zeroValue87
 t51 := Try.underlying140
 a51 := Try.isAgg140
 z51 := Try.sizeOf140
 v51 := Try.zeroValue140
 t146 := Try.underlying141
 a146 := Try.isAgg141
 z146 := Try.sizeOf141
 v146 := Try.zeroValue141
 g1 := by kernel_rfl
 i3 := by kernel_rfl
 i4 := by kernel_rfl
 i5 := by kernel_rfl
 i9 := by kernel_rfl
 i46 := by kernel_rfl
 i51 := by kernel_rfl
 i146 := by kernel_rfl
 m1 := by kernel_rfl
 s1_3 := fun w h => Go.Proofs.cell_of_shapedOpen_int (zero := #[.int .i64 0]) (t := 3) h (of_decide_eq_true (by kernel_rfl)) (by kernel_rfl) rfl (by kernel_rfl) (by kernel_rfl) Try.underlying3 }
end Go.Proofs
end
section
namespace Go.Proofs.Ytcmipoicnonaeaa.F
open Go.RowKit Go.Proofs.YtcmipoicnonaeaaW.PrintWords
def ML (w : World) : Prop := (∃ m, w.cell? ⟨0, 0, none⟩ = some (.int .i64 m)) ∧ 0 < w.heap.size
theorem ML.below {w w' : World} (h : ML w) (hb : Below w.heap.size w w') : ML w' := by
  obtain ⟨⟨m, hm⟩, h0⟩ := h
  exact ⟨⟨m, (hb.cell (p := ⟨0, 0, none⟩) h0).trans hm⟩, Nat.lt_of_lt_of_le h0 hb.size⟩
theorem qh5 (s sub : ByteArray) (w : World) (hs : s.size < 4294967281) (hm : ML w) :
    Calls Try.prog 87 #[.string s, .string sub] w fun e w' => e = .returned (.int .i64 (Lib.index s.data.toList sub.data.toList)) ∧ w' = w := by
  obtain ⟨⟨m, hm⟩, _⟩ := hm
  go_enter Try.func87, Try.ntmps87
  go_wp2_with (go_at_call 92; refine (Try.stringslite_Index s sub m _ hs (by first | exact hm | (simpa using hm))).mono ?_; rintro e w' ⟨rfl, rfl⟩)
  go_ret
  exact ⟨rfl, rfl⟩
end Go.Proofs.Ytcmipoicnonaeaa.F
end
section
namespace Go.Proofs.Ytcmipoicnonaeaa.F
open Go.RowKit Go.Proofs.YtcmipoicnonaeaaW.PrintWords Go.Proofs.YtcmipoicnonaeaaW.PrintLast Go.Proofs.YtcmipoicnonaeaaW.PrintMore
attribute [local go_sem] qbs qbr qc7 qc0 qbh qbj qbp qbq
set_option linter.unusedVariables false
set_option linter.unusedSimpArgs false
def qak (w0 W : World) (g : Nat) (f0 : ByteArray) (f1 : Int) (f2 : Int) : Prop := W.heap[g]? = some (.cells #[.string f0, .int .i64 f1, .int .i64 f2] 107 (0, 0)) ∧ w0.heap.size ≤ g
theorem qak.grown {w0 W : World} {g : Nat} {f0 : ByteArray} {f1 : Int} {f2 : Int} {W1 : World} {row : Option Nat} (h : qak w0 W g f0 f1 f2) (hw : W.grownBy W1 row) (hne : some g ≠ row) : qak w0 W1 g f0 f1 f2 := by
  obtain ⟨hb, hg⟩ := h
  exact ⟨qd0 hb hw hne, hg⟩
theorem qak.fresh {w0 W : World} {g : Nat} {f0 : ByteArray} {f1 : Int} {f2 : Int} (h : qak w0 W g f0 f1 f2) : ∀ k, W.heap.size ≤ k → k ≠ g := by
  obtain ⟨hb, hg⟩ := h
  exact Kd.freshB hb
theorem qak.below {w0 W : World} {g : Nat} {f0 : ByteArray} {f1 : Int} {f2 : Int} {W1 : World} (h : qak w0 W g f0 f1 f2) (hw : Below W.heap.size W W1) : qak w0 W1 g f0 f1 f2 := h.grown (qg6 hw none) (by simp)
theorem qak.alloc {w0 W : World} {g : Nat} {f0 : ByteArray} {f1 : Int} {f2 : Int} (h : qak w0 W g f0 f1 f2) (o : Obj) : qak w0 (W.alloc o) g f0 f1 f2 := h.below (qa6 (Below.refl _ _) o)
theorem qak.drewN {w0 W : World} {g : Nat} {f0 : ByteArray} {f1 : Int} {f2 : Int} (h : qak w0 W g f0 f1 f2) (m : Nat) : qak w0 (W.drewN m) g f0 f1 f2 := h
theorem qak.drew {w0 W : World} {g : Nat} {f0 : ByteArray} {f1 : Int} {f2 : Int} (h : qak w0 W g f0 f1 f2) : qak w0 W.drew g f0 f1 f2 := h
theorem qak.at_ {w0 W : World} {g : Nat} {f0 : ByteArray} {f1 : Int} {f2 : Int} {w' : World} {m : Nat} (hq : W.drewN m = w') (h : qak w0 W g f0 f1 f2) : qak w0 w' g f0 f1 f2 := by subst hq; exact qak.drewN h m
theorem qak.apart {w0 W : World} {g : Nat} {f0 : ByteArray} {f1 : Int} {f2 : Int} {α : Type} {d : Kd α} {e : Nat} {base : Nat} {ok : Nat → Prop} {v : Value} {xs : List α} (h : qak w0 W g f0 f1 f2) (ho : d.R e W base ok v xs) (ht : ∀ q, q ∈ e :: d.E → q ≠ 107) : d.R e W base (fun k => ok k ∧ k ≠ g) v xs := by
  obtain ⟨hb, hg⟩ := h
  exact Kd.qdg ho hb ht
theorem qak.lt {w0 W : World} {g : Nat} {f0 : ByteArray} {f1 : Int} {f2 : Int} (h : qak w0 W g f0 f1 f2) : g < W.heap.size := by
  obtain ⟨hb, hg⟩ := h
  exact qam hb
theorem qak.ge {w0 W : World} {g : Nat} {f0 : ByteArray} {f1 : Int} {f2 : Int} (h : qak w0 W g f0 f1 f2) : w0.heap.size ≤ g := by
  obtain ⟨hb, hg⟩ := h
  exact hg
theorem qak.far {w0 W : World} {g : Nat} {f0 : ByteArray} {f1 : Int} {f2 : Int} {p : Addr} (h : qak w0 W g f0 f1 f2) (hne : g ≠ p.block) (u : Value) : qak w0 (W.setCell p u) g f0 f1 f2 := by
  obtain ⟨hb, hg⟩ := h
  exact ⟨qaj hb hne u, hg⟩
theorem qaz {W : World} {g : Nat} {f0 : ByteArray} {f1 : Int} {f2 : Int} (h : W.heap[g]? = some (.cells #[.string f0, .int .i64 f1, .int .i64 f2] 107 (0, 0))) : W.cell? ⟨g, 0, none⟩ = some (.string f0) := (qa2 h 0).trans rfl
theorem qak.set_0 {w0 W : World} {g : Nat} {f0 : ByteArray} {f1 : Int} {f2 : Int} (h : qak w0 W g f0 f1 f2) (x : ByteArray) : qak w0 (W.setCell ⟨g, 0, none⟩ (.string x)) g x f1 f2 := by
  obtain ⟨hb, hg⟩ := h
  exact ⟨by simpa using qcv hb 0 (.string x), hg⟩
theorem qb2 {W : World} {g : Nat} {f0 : ByteArray} {f1 : Int} {f2 : Int} (h : W.heap[g]? = some (.cells #[.string f0, .int .i64 f1, .int .i64 f2] 107 (0, 0))) : W.cell? ⟨g, 1, none⟩ = some (.int .i64 f1) := (qa2 h 1).trans rfl
theorem qak.qdv {w0 W : World} {g : Nat} {f0 : ByteArray} {f1 : Int} {f2 : Int} (h : qak w0 W g f0 f1 f2) (x : Int) : qak w0 (W.setCell ⟨g, 1, none⟩ (.int .i64 x)) g f0 x f2 := by
  obtain ⟨hb, hg⟩ := h
  exact ⟨by simpa using qcv hb 1 (.int .i64 x), hg⟩
theorem qb1 {W : World} {g : Nat} {f0 : ByteArray} {f1 : Int} {f2 : Int} (h : W.heap[g]? = some (.cells #[.string f0, .int .i64 f1, .int .i64 f2] 107 (0, 0))) : W.cell? ⟨g, 2, none⟩ = some (.int .i64 f2) := (qa2 h 2).trans rfl
theorem qak.qdk {w0 W : World} {g : Nat} {f0 : ByteArray} {f1 : Int} {f2 : Int} (h : qak w0 W g f0 f1 f2) (x : Int) : qak w0 (W.setCell ⟨g, 2, none⟩ (.int .i64 x)) g f0 f1 x := by
  obtain ⟨hb, hg⟩ := h
  exact ⟨by simpa using qcv hb 2 (.int .i64 x), hg⟩
theorem qak.new (w0 W : World) (f0 : ByteArray) (f1 : Int) (f2 : Int) (hB : Below w0.heap.size w0 W) : qak w0 (W.alloc (.cells #[.string f0, .int .i64 f1, .int .i64 f2] 107)) W.heap.size f0 f1 f2 := ⟨by simpa using heap_alloc_new W _, hB.size⟩
end Go.Proofs.Ytcmipoicnonaeaa.F
end
section
namespace Go.Proofs.Ytcmipoicnonaeaa.F
open Go.RowKit Go.Proofs.YtcmipoicnonaeaaW.PrintWords Go.Proofs.YtcmipoicnonaeaaW.PrintLast Go.Proofs.YtcmipoicnonaeaaW.PrintMore
set_option linter.unusedVariables false
set_option linter.unusedSimpArgs false
def qes (s : ByteArray) (p : Int) : Int := if p + 2 < (s.size : Int) then Lib.index (s.extract (p + 3).toNat s.size).data.toList (strOfNums [bt s (p + 1), 93]).data.toList else -1
def qby.f (s0_0 : ByteArray) (s0_1 : Int) (s0_2 : Int) : Option (ByteArray × Int × ByteArray × Int × Int) :=
 if 0 ≤ s0_1 ∧ s0_1 + 1 < (s0_0.size : Int) ∧ s0_0.size < 4294967281 then
  (if qes s0_0 s0_1 < 0 then some (⟨#[]⟩, bt s0_0 (s0_1 + 1), s0_0, s0_1, 6)
  else some (s0_0.extract (s0_1 + 2).toNat (s0_1 + 3 + qes s0_0 s0_1).toNat, bt s0_0 (s0_1 + 1), s0_0, s0_1 + 3 + qes s0_0 s0_1 + 2, s0_2))
 else none
theorem qgd : ∀ (s sub : List UInt8), 0 ≤ Lib.index s sub → Lib.index s sub + (sub.length : Int) ≤ (s.length : Int)
 | [], sub, h => by
  rw [Lib.index] at h ⊢
  split at h
  ·rename_i hs
   have : sub = [] := by simpa using hs
   subst this
   simp
  ·omega
 | b :: l, sub, h => by
  have ih := qgd l sub
  have hge := Lib.index_ge l sub
  rw [Lib.index] at h ⊢
  by_cases hp : sub.isPrefixOf (b :: l) = true
  ·rw [if_pos hp]
   have := (List.isPrefixOf_iff_prefix.1 hp).length_le
   omega
  ·rw [if_neg hp] at h ⊢
   by_cases hm : (Lib.index l sub == -1) = true
   ·rw [if_pos hm] at h; omega
   ·rw [if_neg hm] at h ⊢
    have : ¬ Lib.index l sub = -1 := by simpa using hm
    have := ih (by omega)
    simp only [List.length_cons]
    omega
theorem qhk {o : Oper} {a : Act} {W : World} (t0 : Tmp) (ho : o.op = .convert 54 9 (.tmp t0)) {A : Option Addr} {n c : Nat} {xs : List Int} (h0 : a.eval (.tmp t0) = .slice A n c) (h : qcr W .u8 A n xs) : (execOp a.eval o).run Try.prog W = .ok (.value (.string (strOfNums xs))) W := by
 have hr := qii (P := Try.prog) (src := 54) (dst := 9) (e := 5) (c := c) (by kernel_rfl) (by kernel_rfl) (by kernel_rfl) h
 unfold execOp
 simp only [ho, h0, Sem.run_bind, hr, Result.andThen_ok]
 rfl
def named_T5 : Bool × List (List Nat × List Nat) := (true, [([], []), ([0], [0]), ([1], [1]), ([2], [2]), ([], []), ([4], [4]), ([3, 5], [3, 5]), ([], []), ([7], [7]), ([8], [8]), ([6, 9], [6, 9]), ([10, 10, 0, 1, 2, 3, 4, 5, 6, 7, 8, 9, 10], [10])])
def named_B5 : List Nat := [0, 1, 3, 7, 0, 16, 63, 0, 128, 384, 1023, 2047]
theorem named_tab5 : rtab .any (opsOf Try.f82 5) = named_T5 := by kernel_rfl
theorem named_bits5 : qct named_T5.2 named_B5 = true := by kernel_rfl
set_option maxHeartbeats 4000000 in
set_option maxRecDepth 100000 in
theorem qby.calls (g : Nat) (s0_0 : ByteArray) (s0_1 : Int) (s0_2 : Int) (r1 : ByteArray) (r1b : Int) (r2 : ByteArray) (r3 : Int) (r4 : Int) (w0 w : World) (hML : ML w0) (hI : qak w0 w g s0_0 s0_1 s0_2) (hB : Below w0.heap.size w0 w) (h : qby.f s0_0 s0_1 s0_2 = some (r1, r1b, r2, r3, r4)) :
  Calls Try.prog 82 #[.pointer (some ⟨g, 0, none⟩)] w fun e w' => e = .returned (.tuple #[.string r1, .int .u8 r1b]) ∧ qak w0 w' g r2 r3 r4 ∧ Below w0.heap.size w0 w' ∧ qax w w' g none := by
 unfold qby.f at h
 by_cases hc : 0 ≤ s0_1 ∧ s0_1 + 1 < (s0_0.size : Int) ∧ s0_0.size < 4294967281
 rotate_left
 ·rw [if_neg hc] at h; cases h
 rw [if_pos hc] at h
 obtain ⟨hp0, hp1, hsz⟩ := hc
 have HH := qa0.mk h
 clear h
 have HI0 := qa0.mk hI
 have HK := qa0.mk (qax.refl w g none)
 have HB := qa0.mk hB
 have HM := qa0.mk hML
 obtain ⟨HG, hg⟩ := hI
 have hc0 := qaz HG
 have hc1 := qb2 HG
 have hc2 := qb1 HG
 have hf0 := qa1 HG 0
 have hf1 := qa1 HG 1
 have hf2 := qa1 HG 2
 have HGA := qa0.mk HG
 clear HG hg hB hML
 obtain ⟨j1, hj1⟩ : ∃ j : Int, s0_1 + 1 = j := ⟨_, rfl⟩
 obtain ⟨j2, hj2⟩ : ∃ j : Int, s0_1 + 2 = j := ⟨_, rfl⟩
 have hw1 : IntKind.i64.wrap (s0_1 + 1) = j1 := by rw [qbk, qbt (by omega) (by omega)]; exact hj1
 have hw2 : IntKind.i64.wrap (s0_1 + 2) = j2 := by rw [qbk, qbt (by omega) (by omega)]; exact hj2
 have p1 : (0 ≤ j1) = True := eq_true (by omega)
 have q1 : (j1 < (s0_0.size : Int)) = True := eq_true (by omega)
 have hx1 := qbz s0_0 j1
 have HJ := qa0.mk (show 0 ≤ s0_1 ∧ s0_1 + 1 = j1 ∧ s0_1 + 2 = j2 ∧ s0_0.size < 4294967281 ∧ j1 < (s0_0.size : Int) by omega)
 clear hp0 hp1 hsz hj1 hj2
 by_cases c4 : j2 < (s0_0.size : Int)
 ·have c4b : decide (j2 < (s0_0.size : Int)) = true := decide_eq_true c4
  obtain ⟨j3, hj3⟩ : ∃ j : Int, s0_1 + 3 = j := ⟨_, rfl⟩
  have hw3 : IntKind.i64.wrap (j2 + 1) = j3 := by have := HJ.out; rw [qbk, qbt (by omega) (by omega)]; omega
  have p3 : (0 ≤ j3) = True := eq_true (by have := HJ.out; omega)
  have p3' : decide (0 ≤ j3) = true := decide_eq_true (by have := HJ.out; omega)
  have q3 : (j3 ≤ (s0_0.size : Int)) = True := eq_true (by have := HJ.out; omega)
  have q3' : decide (j3 ≤ (s0_0.size : Int)) = true := decide_eq_true (by have := HJ.out; omega)
  obtain ⟨kk, hkk⟩ : ∃ k : Int, Lib.index (s0_0.extract j3.toNat s0_0.size).data.toList (strOfNums [bt s0_0 j1, 93]).data.toList = k := ⟨_, rfl⟩
  have HKK := qa0.mk hkk
  have HC4 := qa0.mk c4
  have HJ3 := qa0.mk hj3
  have HM3 := qa0.mk (HM.out.below HB.out)
  clear hkk c4 hj3
  go_enter Try.func82, Try.ntmps82
  go_wp2
  go_quiet (fail)
  try go_wp2
  refine qe1 (n := 12) (S := fun w' => True) (ds := []) #[false, false, false, false, false, false, false, false, false, false, false, false] (by kernel_rfl) rfl rfl trivial (fun hHeld => ?_)
  refine qd4 named_tab5 named_bits5 (fun HT_ HW_ => ?_)
  clear hc0 hc1 hc2 hf0 hf1 hf2
  generalize hW : World.drew _ = W at hHeld ⊢
  have HG3 : qa0 (W.heap[g]? = some (.cells #[.string s0_0, .int .i64 s0_1, .int .i64 s0_2] 107 (0, 0))) := by subst hW; exact HGA
  have HB3 : qa0 (Below w.heap.size w W) := by subst hW; exact ⟨by repeat (first | exact Below.refl _ _ | apply qa8 | apply qa7)⟩
  clear hW
  refine qe6 [0, 1, 2, 3, 4, 5, 6, 7, 8, 9, 10, 11] (fun a0_ b_ a w' => ∃ gL : Nat, a = qb0 a0_ b_ [(0, 29, .pointer (some ⟨g, 0, none⟩)), (1, 30, .pointer (some ⟨g, 0, none⟩)), (2, 31, .pointer (some ⟨g, 0, none⟩)), (3, 32, .string s0_0), (4, 33, .int .i64 j2), (5, 34, .int .i64 j3), (6, 35, .string (s0_0.extract j3.toNat s0_0.size)), (7, 36, .int .u8 (bt s0_0 j1)), (8, 37, .slice (some ⟨gL, 0, none⟩) 2 2), (9, 38, .string (strOfNums [bt s0_0 j1, 93])), (10, 39, .int .i64 kk), (11, 6, .int .i64 kk)] ∧ Below W.heap.size W w' ∧ (b_ 8 = true → b_ 9 = false → w'.heap[gL]? = some (.cells #[.int .u8 (bt s0_0 j1), .int .u8 93] 5 (0, 0)))) HT_.out HW_.out (by kernel_rfl) (by kernel_rfl) ?_ ?_ ?_
  ·exact ⟨0, by simp only [qb0, Bool.false_eq_true, if_false], Below.refl _ _, (fun h => by cases h)⟩
  ·skip
   refine qab ?_ ?_
   ·rintro b_ a w' ⟨gL, ha, hB, h8⟩ hb_ hon hoff
    refine ⟨_, rfl, fun K hK => ?_⟩
    have e0 : a.tmps[0]? = some (.pointer (some ⟨g, 0, none⟩)) := by rw [ha]; exact (qb4 rfl).trans rfl
    replace ha := qa0.mk ha
    refine qar (w1 := w') (v := .pointer (some ⟨g, 0, none⟩)) (by rfl) rfl (by go_simp; try rfl) ?_
    exact hK.out _ _ ⟨gL, by rw [ha.out]; exact qac 0 hb_ rfl rfl rfl, hB, h8⟩
   refine qab ?_ ?_
   ·rintro b_ a w' ⟨gL, ha, hB, h8⟩ hb_ hon hoff
    refine ⟨_, rfl, fun K hK => ?_⟩
    have e29 : a.tmps[29]? = some (.pointer (some ⟨g, 0, none⟩)) := by rw [ha]; exact qaf (e := (0, 29, .pointer (some ⟨g, 0, none⟩))) 0 rfl rfl (hon 0 (by kernel_rfl)) rfl
    replace ha := qa0.mk ha
    refine qar (w1 := w') (v := .pointer (some ⟨g, 0, none⟩)) (by rfl) rfl (by go_simp; try rfl) ?_
    exact hK.out _ _ ⟨gL, by rw [ha.out]; exact qac 1 hb_ rfl rfl rfl, hB, h8⟩
   refine qab ?_ ?_
   ·rintro b_ a w' ⟨gL, ha, hB, h8⟩ hb_ hon hoff
    refine ⟨_, rfl, fun K hK => ?_⟩
    have e30 : a.tmps[30]? = some (.pointer (some ⟨g, 0, none⟩)) := by rw [ha]; exact qaf (e := (1, 30, .pointer (some ⟨g, 0, none⟩))) 1 rfl rfl (hon 1 (by kernel_rfl)) rfl
    replace ha := qa0.mk ha
    refine qar (w1 := w') (v := .pointer (some ⟨g, 0, none⟩)) (by rfl) rfl (by go_simp; try rfl) ?_
    exact hK.out _ _ ⟨gL, by rw [ha.out]; exact qac 2 hb_ rfl rfl rfl, hB, h8⟩
   refine qab ?_ ?_
   ·rintro b_ a w' ⟨gL, ha, hB, h8⟩ hb_ hon hoff
    refine ⟨_, rfl, fun K hK => ?_⟩
    have e31 : a.tmps[31]? = some (.pointer (some ⟨g, 0, none⟩)) := by rw [ha]; exact qaf (e := (2, 31, .pointer (some ⟨g, 0, none⟩))) 2 rfl rfl (hon 2 (by kernel_rfl)) rfl
    have hc0 := qaz (qae HG3.out hB)
    replace ha := qa0.mk ha
    refine qar (w1 := w') (v := .string s0_0) (by rfl) rfl (by go_simp; try rfl) ?_
    exact hK.out _ _ ⟨gL, by rw [ha.out]; exact qac 3 hb_ rfl rfl rfl, hB, h8⟩
   refine qab ?_ ?_
   ·rintro b_ a w' ⟨gL, ha, hB, h8⟩ hb_ hon hoff
    refine ⟨_, rfl, fun K hK => ?_⟩
    have e5 : a.tmps[5]? = some (.int .i64 j2) := by rw [ha]; exact (qb4 rfl).trans rfl
    replace ha := qa0.mk ha
    refine qar (w1 := w') (v := .int .i64 j2) (by rfl) rfl (by go_simp; try rfl) ?_
    exact hK.out _ _ ⟨gL, by rw [ha.out]; exact qac 4 hb_ rfl rfl rfl, hB, h8⟩
   refine qab ?_ ?_
   ·rintro b_ a w' ⟨gL, ha, hB, h8⟩ hb_ hon hoff
    refine ⟨_, rfl, fun K hK => ?_⟩
    have e33 : a.tmps[33]? = some (.int .i64 j2) := by rw [ha]; exact qaf (e := (4, 33, .int .i64 j2)) 4 rfl rfl (hon 4 (by kernel_rfl)) rfl
    replace ha := qa0.mk ha
    refine qar (w1 := w') (v := .int .i64 j3) (by rfl) rfl (by go_simp; try rfl) ?_
    exact hK.out _ _ ⟨gL, by rw [ha.out]; exact qac 5 hb_ rfl rfl rfl, hB, h8⟩
   refine qab ?_ ?_
   ·rintro b_ a w' ⟨gL, ha, hB, h8⟩ hb_ hon hoff
    refine ⟨_, rfl, fun K hK => ?_⟩
    have e32 : a.tmps[32]? = some (.string s0_0) := by rw [ha]; exact qaf (e := (3, 32, .string s0_0)) 3 rfl rfl (hon 3 (by kernel_rfl)) rfl
    have e34 : a.tmps[34]? = some (.int .i64 j3) := by rw [ha]; exact qaf (e := (5, 34, .int .i64 j3)) 5 rfl rfl (hon 5 (by kernel_rfl)) rfl
    replace ha := qa0.mk ha
    refine qar (w1 := w') (v := .string (s0_0.extract j3.toNat s0_0.size)) (by rfl) rfl (by go_simp; try rfl) ?_
    exact hK.out _ _ ⟨gL, by rw [ha.out]; exact qac 6 hb_ rfl rfl rfl, hB, h8⟩
   refine qab ?_ ?_
   ·rintro b_ a w' ⟨gL, ha, hB, h8⟩ hb_ hon hoff
    refine ⟨_, rfl, fun K hK => ?_⟩
    have e4 : a.tmps[4]? = some (.int .u8 (bt s0_0 j1)) := by rw [ha]; exact (qb4 rfl).trans rfl
    replace ha := qa0.mk ha
    refine qar (w1 := w') (v := .int .u8 (bt s0_0 j1)) (by rfl) rfl (by go_simp; try rfl) ?_
    exact hK.out _ _ ⟨gL, by rw [ha.out]; exact qac 7 hb_ rfl rfl rfl, hB, h8⟩
   refine qab ?_ ?_
   ·rintro b_ a w' ⟨gL, ha, hB, h8⟩ hb_ hon hoff
    refine ⟨_, rfl, fun K hK => ?_⟩
    have e36 : a.tmps[36]? = some (.int .u8 (bt s0_0 j1)) := by rw [ha]; exact qaf (e := (7, 36, .int .u8 (bt s0_0 j1))) 7 rfl rfl (hon 7 (by kernel_rfl)) rfl
    replace ha := qa0.mk ha
    refine qeq (w1 := w'.alloc (.cells #[.int .u8 (bt s0_0 j1), .int .u8 93] 5 (0, 0))) (v := .slice (some ⟨w'.heap.size, 0, none⟩) 2 2) (by rfl) (by go_simp; try rfl) ?_
    exact hK.out _ _ ⟨w'.heap.size, by rw [ha.out]; exact qac 8 hb_ rfl rfl rfl, qap hB (qa6 (Below.refl _ _) _), fun _ _ => qat w' _⟩
   refine qab ?_ ?_
   ·rintro b_ a w' ⟨gL, ha, hB, h8⟩ hb_ hon hoff
    refine ⟨_, rfl, fun K hK => ?_⟩
    have e37 : a.tmps[37]? = some (.slice (some ⟨gL, 0, none⟩) 2 2) := by rw [ha]; exact qaf (e := (8, 37, .slice (some ⟨gL, 0, none⟩) 2 2)) 8 rfl rfl (hon 8 (by kernel_rfl)) rfl
    have hz := h8 (hon 8 (by kernel_rfl)) hb_
    have hrd : qcr w' .u8 (some ⟨gL, 0, none⟩) 2 [bt s0_0 j1, 93] := ⟨rfl, by decide, fun _ => ⟨_, rfl, fun j hj => by rcases (by omega : j = 0 ∨ j = 1) with rfl | rfl <;> exact (qa2 hz _).trans rfl⟩⟩
    replace ha := qa0.mk ha
    refine qar (w1 := w') (v := .string (strOfNums [bt s0_0 j1, 93])) (by rfl) rfl (qhk (c := 2) 37 rfl (by simp only [Act.eval, Array.getD_eq_getD_getElem?, e37, Option.getD_some]) hrd) ?_
    exact hK.out _ _ ⟨gL, by rw [ha.out]; exact qac 9 hb_ rfl rfl rfl, hB, (fun _ h => by cases h)⟩
   refine qab ?_ ?_
   ·rintro b_ a w' ⟨gL, ha, hB, h8⟩ hb_ hon hoff
    refine ⟨_, rfl, fun K hK => ?_⟩
    have e35 : a.tmps[35]? = some (.string (s0_0.extract j3.toNat s0_0.size)) := by rw [ha]; exact qaf (e := (6, 35, .string (s0_0.extract j3.toNat s0_0.size))) 6 rfl rfl (hon 6 (by kernel_rfl)) rfl
    have e38 : a.tmps[38]? = some (.string (strOfNums [bt s0_0 j1, 93])) := by rw [ha]; exact qaf (e := (9, 38, .string (strOfNums [bt s0_0 j1, 93]))) 9 rfl rfl (hon 9 (by kernel_rfl)) rfl
    refine qhb Try.func87 (by kernel_rfl) rfl #[.string (s0_0.extract j3.toNat s0_0.size), .string (strOfNums [bt s0_0 j1, 93])] (by rfl) rfl rfl (by simp only [List.map_toArray, List.map_cons, List.map_nil, Act.eval, Array.getD_eq_getD_getElem?, e35, e38, Option.getD_some]) ?_
    refine (qh5 _ _ _ (by have := HJ.out; rw [ByteArray.size_extract]; omega) ((HM3.out.below HB3.out).below hB)).mono ?_
    rintro e' w10 ⟨rfl, rfl⟩
    refine ⟨_, rfl, ?_⟩
    rw [HKK.out]
    exact hK.out _ _ ⟨gL, by rw [ha]; exact qac 10 hb_ rfl rfl rfl, hB, (fun _ h => absurd ((hon 9 (by kernel_rfl)).symm.trans h) (by decide))⟩
   refine qab ?_ ?_
   ·rintro b_ a w' ⟨gL, ha, hB, h8⟩ hb_ hon hoff
    refine ⟨_, rfl, fun K hK => ?_⟩
    have e39 : a.tmps[39]? = some (.int .i64 kk) := by rw [ha]; exact qaf (e := (10, 39, .int .i64 kk)) 10 rfl rfl (hon 10 (by kernel_rfl)) rfl
    replace ha := qa0.mk ha
    refine qar (w1 := w') (v := .int .i64 kk) (by rfl) rfl (by go_simp; try rfl) ?_
    exact hK.out _ _ ⟨gL, by rw [ha.out]; exact qac 11 hb_ rfl rfl rfl, hB, h8⟩
   exact qd8
  ·rintro b_ a w' hall ⟨gL, ha, hB, h8⟩
   have hb0_ := hall 0 (by kernel_rfl)
   have hb1_ := hall 1 (by kernel_rfl)
   have hb2_ := hall 2 (by kernel_rfl)
   have hb3_ := hall 3 (by kernel_rfl)
   have hb4_ := hall 4 (by kernel_rfl)
   have hb5_ := hall 5 (by kernel_rfl)
   have hb6_ := hall 6 (by kernel_rfl)
   have hb7_ := hall 7 (by kernel_rfl)
   have hb8_ := hall 8 (by kernel_rfl)
   have hb9_ := hall 9 (by kernel_rfl)
   have hb10_ := hall 10 (by kernel_rfl)
   have hb11_ := hall 11 (by kernel_rfl)
   subst ha
   simp only [qb0, hb0_, hb1_, hb2_, hb3_, hb4_, hb5_, hb6_, hb7_, hb8_, hb9_, hb10_, hb11_, if_true, Act.put, List.setIfInBounds_toArray, List.set_cons_zero, List.set_cons_succ]
   have HB4 := qa0.mk (qap HB3.out hB)
   have HG4 := qa0.mk (qae HG3.out hB)
   clear hall h8 hHeld HT_ HW_ hB HG3 HB3 hb0_ hb1_ hb2_ hb3_ hb4_ hb5_ hb6_ hb7_ hb8_ hb9_ hb10_ hb11_
   have hc0 := qaz HG4.out
   have hc1 := qb2 HG4.out
   have hc2 := qb1 HG4.out
   have hf0 := qa1 HG4.out 0
   have hf1 := qa1 HG4.out 1
   have hf2 := qa1 HG4.out 2
   have hKn : qes s0_0 s0_1 = kk := by have := HJ.out; have := HC4.out; unfold qes; rw [if_pos (by omega), HJ.out.2.1, HJ3.out]; exact HKK.out
   have hH := HH.out
   rw [hKn] at hH
   have HI5 : qa0 (qak w0 w' g s0_0 s0_1 s0_2) := ⟨HG4.out, HI0.out.2⟩
   have HB5 := qa0.mk (qca HB.out HB.out.size HB4.out)
   have HK5 : qa0 (qax w w' g none) := ⟨⟨HB4.out.size, fun i hi _ _ => HB4.out.block i hi⟩⟩
   clear HI0 HB HK HGA HM HM3 HB4 HG4 HH hKn
   by_cases ck : kk < 0
   ·have ckb : decide (kk < 0) = true := decide_eq_true ck
    rw [if_pos ck] at hH
    simp only [Option.some.injEq, Prod.mk.injEq] at hH
    rw [HJ.out.2.1] at hH
    obtain ⟨rfl, rfl, rfl, rfl, rfl⟩ := hH
    clear ck
    go_wp2
    repeat (go_quiet (fail); try go_wp2)
    refine bodyPost_ret (qb3 (rs := [.tmp 2, .tmp 3]) rfl (by simp) (.tmp (.tmp .nil))) rfl ?_
    exact ⟨rfl, HI5.out.qdk 6, qa9 HB5.out HI5.out.ge, HK5.out.set_ _ _⟩
   ·have ckb : decide (kk < 0) = false := decide_eq_false ck
    rw [if_neg ck] at hH
    simp only [Option.some.injEq, Prod.mk.injEq] at hH
    rw [HJ.out.2.1, HJ.out.2.2.1, HJ3.out] at hH
    obtain ⟨rfl, rfl, rfl, rfl, rfl⟩ := hH
    have hfit : kk + 2 ≤ ((s0_0.size - j3.toNat : Nat) : Int) := by
     have h := qgd (s0_0.extract j3.toNat s0_0.size).data.toList (strOfNums [bt s0_0 j1, 93]).data.toList (by rw [HKK.out]; omega)
     rw [HKK.out, ← qcn (s0_0.extract j3.toNat s0_0.size), ByteArray.size_extract] at h
     have h2 : (((strOfNums [bt s0_0 j1, 93]).data.toList.length : Nat) : Int) = 2 := rfl
     rw [h2] at h
     have := HJ.out
     omega
    have hJ := HJ.out
    have hJ3 := HJ3.out
    obtain ⟨j4, hj4⟩ : ∃ j : Int, j3 + kk = j := ⟨_, rfl⟩
    have hw4 : IntKind.i64.wrap (j3 + kk) = j4 := by rw [qbk, qbt (by omega) (by omega)]; exact hj4
    have hw5 : IntKind.i64.wrap (j4 + 2) = j3 + kk + 2 := by rw [qbk, qbt (by omega) (by omega)]; omega
    have p4 : (0 ≤ j2) = True := eq_true (by omega)
    have p4' : decide (0 ≤ j2) = true := decide_eq_true (by omega)
    have q4 : (j2 ≤ j4) = True := eq_true (by omega)
    have q4' : decide (j2 ≤ j4) = true := decide_eq_true (by omega)
    have q5 : (j4 ≤ (s0_0.size : Int)) = True := eq_true (by omega)
    have q5' : decide (j4 ≤ (s0_0.size : Int)) = true := decide_eq_true (by omega)
    have HJ4 := qa0.mk hj4
    clear ck hfit hJ hJ3 hj4
    go_wp2
    repeat (go_quiet (fail); try go_wp2)
    refine bodyPost_ret (qb3 (rs := [.tmp 2, .tmp 3]) rfl (by simp) (.tmp (.tmp .nil))) rfl ?_
    have hj4 := HJ4.out
    subst hj4
    exact ⟨rfl, HI5.out.qdv _, qa9 HB5.out HI5.out.ge, HK5.out.set_ _ _⟩
 ·have c4b : decide (j2 < (s0_0.size : Int)) = false := decide_eq_false c4
  have hk : qes s0_0 s0_1 = -1 := by have := HJ.out; unfold qes; rw [if_neg (by omega)]
  have hH := HH.out
  rw [hk, if_pos (by decide)] at hH
  simp only [Option.some.injEq, Prod.mk.injEq] at hH
  rw [HJ.out.2.1] at hH
  obtain ⟨rfl, rfl, rfl, rfl, rfl⟩ := hH
  clear c4 hk
  go_enter Try.func82, Try.ntmps82
  go_wp2
  repeat (go_quiet (fail); try go_wp2)
  refine bodyPost_ret (qb3 (rs := [.tmp 2, .tmp 3]) rfl (by simp) (.tmp (.tmp .nil))) rfl ?_
  exact ⟨rfl, (HI0.out.drewN _).qdk 6, qa9 (qa7 HB.out _) HI0.out.ge, (qcb HK.out _).set_ _ _⟩
end Go.Proofs.Ytcmipoicnonaeaa.F
end
section
namespace Go.Proofs.Ytcmipoicnonaeaa.F
open Go.RowKit Go.Proofs.YtcmipoicnonaeaaW.PrintWords Go.Proofs.YtcmipoicnonaeaaW.PrintLast Go.Proofs.YtcmipoicnonaeaaW.PrintMore
attribute [local go_sem] qbs qbr qc7 qc0 qbh qbj qbp qbq
set_option linter.unusedVariables false
set_option linter.unusedSimpArgs false
mutual
def qbm.j0 : Nat → ByteArray → Int → Bool → Bool → Bool → Option (Bool × Bool)
 | 0, _, _, _, _, _ => none
 | k + 1, x0, x1, x6, x7, x8 => if x1 > 32 then (qbm.j1 k x0 x1 x6 x7 x8 (decide (x1 < 127))) else (qbm.j1 k x0 x1 x6 x7 x8 false)
def qbm.j1 : Nat → ByteArray → Int → Bool → Bool → Bool → Bool → Option (Bool × Bool)
 | 0, _, _, _, _, _, _ => none
 | k + 1, x0, x1, x6, x7, x8, x9 => if x0.toList = ([97, 108, 112, 104, 97] : List UInt8) then (if x6 = true then (some (true, true)) else (some (x7, true))) else (if x0.toList = ([100, 105, 103, 105, 116] : List UInt8) then (some (x8, true)) else (if x0.toList = ([97, 108, 110, 117, 109] : List UInt8) then (if x6 = true then (some (true, true)) else (if x7 = true then (some (true, true)) else (some (x8, true)))) else (if x0.toList = ([117, 112, 112, 101, 114] : List UInt8) then (some (x6, true)) else (if x0.toList = ([108, 111, 119, 101, 114] : List UInt8) then (some (x7, true)) else (if x0.toList = ([115, 112, 97, 99, 101] : List UInt8) then (if x1 = 32 then (some (true, true)) else (if x1 ≥ 9 then (some (decide (x1 ≤ 13), true)) else (some (false, true)))) else (if x0.toList = ([98, 108, 97, 110, 107] : List UInt8) then (if x1 = 32 then (some (true, true)) else (some ((x1 == 9), true))) else (if x0.toList = ([103, 114, 97, 112, 104] : List UInt8) then (some (x9, true)) else (if x0.toList = ([112, 114, 105, 110, 116] : List UInt8) then (if x9 = true then (some (true, true)) else (some ((x1 == 32), true))) else (if x0.toList = ([112, 117, 110, 99, 116] : List UInt8) then (if x9 = true then (if x6 = true then (some (false, true)) else (if x7 = true then (some (false, true)) else (some (!x8, true)))) else (some (false, true))) else (if x0.toList = ([99, 110, 116, 114, 108] : List UInt8) then (if x1 < 32 then (some (true, true)) else (some ((x1 == 127), true))) else (if x0.toList = ([120, 100, 105, 103, 105, 116] : List UInt8) then (if x8 = true then (some (true, true)) else (if x1 ≥ 65 then (if x1 ≤ 70 then (some (true, true)) else (if x1 ≥ 97 then (some (decide (x1 ≤ 102), true)) else (some (false, true)))) else (if x1 ≥ 97 then (some (decide (x1 ≤ 102), true)) else (some (false, true))))) else (some (false, false)))))))))))))
end
def qbm.f (k : Nat) (a0 : ByteArray) (a1 : Int) : Option (Bool × Bool) := if a1 ≥ 65 then (if a1 ≥ 97 then (if a1 ≥ 48 then (qbm.j0 k a0 a1 (decide (a1 ≤ 90)) (decide (a1 ≤ 122)) (decide (a1 ≤ 57))) else (qbm.j0 k a0 a1 (decide (a1 ≤ 90)) (decide (a1 ≤ 122)) false)) else (if a1 ≥ 48 then (qbm.j0 k a0 a1 (decide (a1 ≤ 90)) false (decide (a1 ≤ 57))) else (qbm.j0 k a0 a1 (decide (a1 ≤ 90)) false false))) else (if a1 ≥ 97 then (if a1 ≥ 48 then (qbm.j0 k a0 a1 false (decide (a1 ≤ 122)) (decide (a1 ≤ 57))) else (qbm.j0 k a0 a1 false (decide (a1 ≤ 122)) false)) else (if a1 ≥ 48 then (qbm.j0 k a0 a1 false false (decide (a1 ≤ 57))) else (qbm.j0 k a0 a1 false false false)))
set_option maxHeartbeats 8000000 in
set_option maxRecDepth 100000 in
theorem qbm.calls (k : Nat) (a0 : ByteArray) (a1 : Int) (r1 : Bool) (r2 : Bool) (w : World) (h : qbm.f k a0 a1 = some (r1, r2)) :
  Calls Try.prog 88 #[.string a0, .int .u8 a1] w fun e w' => e = .returned (.tuple #[.bool r1, .bool r2]) ∧ qau w w' := by
 have H : (if a1 ≥ 65 then (if a1 ≥ 97 then (if a1 ≥ 48 then (qbm.j0 k a0 a1 (decide (a1 ≤ 90)) (decide (a1 ≤ 122)) (decide (a1 ≤ 57))) else (qbm.j0 k a0 a1 (decide (a1 ≤ 90)) (decide (a1 ≤ 122)) false)) else (if a1 ≥ 48 then (qbm.j0 k a0 a1 (decide (a1 ≤ 90)) false (decide (a1 ≤ 57))) else (qbm.j0 k a0 a1 (decide (a1 ≤ 90)) false false))) else (if a1 ≥ 97 then (if a1 ≥ 48 then (qbm.j0 k a0 a1 false (decide (a1 ≤ 122)) (decide (a1 ≤ 57))) else (qbm.j0 k a0 a1 false (decide (a1 ≤ 122)) false)) else (if a1 ≥ 48 then (qbm.j0 k a0 a1 false false (decide (a1 ≤ 57))) else (qbm.j0 k a0 a1 false false false)))) = some (r1, r2) := h
 clear h
 have HC3 := qa0.mk H
 clear H
 go_enter Try.func88, Try.ntmps88
 go_upto_region 1 with (fail)
 go_cut [6, 7, 8] (fun v6 v7 v8 wc => ∃ (kq : Nat) (x6_2 : Bool) (x7_2 : Bool) (x8_2 : Bool), v6 = .bool x6_2 ∧ v7 = .bool x7_2 ∧ v8 = .bool x8_2 ∧ qa0 (qbm.j0 kq a0 a1 x6_2 x7_2 x8_2 = some (r1, r2)) ∧ qa0 (kq ≤ k) ∧ qau w wc)
 case first =>
  have H := HC3.out
  clear HC3
  by_cases c4 : a1 ≥ 65
  ·rw [if_pos c4] at H
   have c4b0 : decide (65 ≤ a1) = true := decide_eq_true c4
   clear c4
   (first | rw [c4b0] | (simp only [qbk, qcl]; rw [c4b0]) | skip)
   by_cases c5 : a1 ≥ 97
   ·rw [if_pos c5] at H
    have c5b0 : decide (97 ≤ a1) = true := decide_eq_true c5
    clear c5
    by_cases c6 : a1 ≥ 48
    ·rw [if_pos c6] at H
     have c6b0 : decide (48 ≤ a1) = true := decide_eq_true c6
     clear c6
     have H' := qa0.mk H
     clear H
     go_wp2
     go_meet
     case rel => exact ⟨_, (decide (a1 ≤ 90)), (decide (a1 ≤ 122)), (decide (a1 ≤ 57)), (by first | rfl | (simp; done) | (simp [*]; done) | (exfalso; simp only [decide_eq_true_eq] at *; omega)), (by first | rfl | (simp; done) | (simp [*]; done) | (exfalso; simp only [decide_eq_true_eq] at *; omega)), (by first | rfl | (simp; done) | (simp [*]; done) | (exfalso; simp only [decide_eq_true_eq] at *; omega)), H', ⟨by first | omega | exact Nat.le_refl _⟩, by repeat (first | exact qau.refl _ | apply qau.step)⟩
    ·rw [if_neg c6] at H
     have c6b0 : decide (48 ≤ a1) = false := decide_eq_false c6
     clear c6
     have H' := qa0.mk H
     clear H
     go_wp2
     go_meet
     case rel => exact ⟨_, (decide (a1 ≤ 90)), (decide (a1 ≤ 122)), (false), (by first | rfl | (simp; done) | (simp [*]; done) | (exfalso; simp only [decide_eq_true_eq] at *; omega)), (by first | rfl | (simp; done) | (simp [*]; done) | (exfalso; simp only [decide_eq_true_eq] at *; omega)), (by first | rfl | (simp; done) | (simp [*]; done) | (exfalso; simp only [decide_eq_true_eq] at *; omega)), H', ⟨by first | omega | exact Nat.le_refl _⟩, by repeat (first | exact qau.refl _ | apply qau.step)⟩
   ·rw [if_neg c5] at H
    have c5b0 : decide (97 ≤ a1) = false := decide_eq_false c5
    clear c5
    by_cases c7 : a1 ≥ 48
    ·rw [if_pos c7] at H
     have c7b0 : decide (48 ≤ a1) = true := decide_eq_true c7
     clear c7
     have H' := qa0.mk H
     clear H
     go_wp2
     go_meet
     case rel => exact ⟨_, (decide (a1 ≤ 90)), (false), (decide (a1 ≤ 57)), (by first | rfl | (simp; done) | (simp [*]; done) | (exfalso; simp only [decide_eq_true_eq] at *; omega)), (by first | rfl | (simp; done) | (simp [*]; done) | (exfalso; simp only [decide_eq_true_eq] at *; omega)), (by first | rfl | (simp; done) | (simp [*]; done) | (exfalso; simp only [decide_eq_true_eq] at *; omega)), H', ⟨by first | omega | exact Nat.le_refl _⟩, by repeat (first | exact qau.refl _ | apply qau.step)⟩
    ·rw [if_neg c7] at H
     have c7b0 : decide (48 ≤ a1) = false := decide_eq_false c7
     clear c7
     have H' := qa0.mk H
     clear H
     go_wp2
     go_meet
     case rel => exact ⟨_, (decide (a1 ≤ 90)), (false), (false), (by first | rfl | (simp; done) | (simp [*]; done) | (exfalso; simp only [decide_eq_true_eq] at *; omega)), (by first | rfl | (simp; done) | (simp [*]; done) | (exfalso; simp only [decide_eq_true_eq] at *; omega)), (by first | rfl | (simp; done) | (simp [*]; done) | (exfalso; simp only [decide_eq_true_eq] at *; omega)), H', ⟨by first | omega | exact Nat.le_refl _⟩, by repeat (first | exact qau.refl _ | apply qau.step)⟩
  ·rw [if_neg c4] at H
   have c4b0 : decide (65 ≤ a1) = false := decide_eq_false c4
   clear c4
   (first | rw [c4b0] | (simp only [qbk, qcl]; rw [c4b0]) | skip)
   by_cases c8 : a1 ≥ 97
   ·rw [if_pos c8] at H
    have c8b0 : decide (97 ≤ a1) = true := decide_eq_true c8
    clear c8
    by_cases c9 : a1 ≥ 48
    ·rw [if_pos c9] at H
     have c9b0 : decide (48 ≤ a1) = true := decide_eq_true c9
     clear c9
     have H' := qa0.mk H
     clear H
     go_wp2
     go_meet
     case rel => exact ⟨_, (false), (decide (a1 ≤ 122)), (decide (a1 ≤ 57)), (by first | rfl | (simp; done) | (simp [*]; done) | (exfalso; simp only [decide_eq_true_eq] at *; omega)), (by first | rfl | (simp; done) | (simp [*]; done) | (exfalso; simp only [decide_eq_true_eq] at *; omega)), (by first | rfl | (simp; done) | (simp [*]; done) | (exfalso; simp only [decide_eq_true_eq] at *; omega)), H', ⟨by first | omega | exact Nat.le_refl _⟩, by repeat (first | exact qau.refl _ | apply qau.step)⟩
    ·rw [if_neg c9] at H
     have c9b0 : decide (48 ≤ a1) = false := decide_eq_false c9
     clear c9
     have H' := qa0.mk H
     clear H
     go_wp2
     go_meet
     case rel => exact ⟨_, (false), (decide (a1 ≤ 122)), (false), (by first | rfl | (simp; done) | (simp [*]; done) | (exfalso; simp only [decide_eq_true_eq] at *; omega)), (by first | rfl | (simp; done) | (simp [*]; done) | (exfalso; simp only [decide_eq_true_eq] at *; omega)), (by first | rfl | (simp; done) | (simp [*]; done) | (exfalso; simp only [decide_eq_true_eq] at *; omega)), H', ⟨by first | omega | exact Nat.le_refl _⟩, by repeat (first | exact qau.refl _ | apply qau.step)⟩
   ·rw [if_neg c8] at H
    have c8b0 : decide (97 ≤ a1) = false := decide_eq_false c8
    clear c8
    by_cases c10 : a1 ≥ 48
    ·rw [if_pos c10] at H
     have c10b0 : decide (48 ≤ a1) = true := decide_eq_true c10
     clear c10
     have H' := qa0.mk H
     clear H
     go_wp2
     go_meet
     case rel => exact ⟨_, (false), (false), (decide (a1 ≤ 57)), (by first | rfl | (simp; done) | (simp [*]; done) | (exfalso; simp only [decide_eq_true_eq] at *; omega)), (by first | rfl | (simp; done) | (simp [*]; done) | (exfalso; simp only [decide_eq_true_eq] at *; omega)), (by first | rfl | (simp; done) | (simp [*]; done) | (exfalso; simp only [decide_eq_true_eq] at *; omega)), H', ⟨by first | omega | exact Nat.le_refl _⟩, by repeat (first | exact qau.refl _ | apply qau.step)⟩
    ·rw [if_neg c10] at H
     have c10b0 : decide (48 ≤ a1) = false := decide_eq_false c10
     clear c10
     have H' := qa0.mk H
     clear H
     go_wp2
     go_meet
     case rel => exact ⟨_, (false), (false), (false), (by first | rfl | (simp; done) | (simp [*]; done) | (exfalso; simp only [decide_eq_true_eq] at *; omega)), (by first | rfl | (simp; done) | (simp [*]; done) | (exfalso; simp only [decide_eq_true_eq] at *; omega)), (by first | rfl | (simp; done) | (simp [*]; done) | (exfalso; simp only [decide_eq_true_eq] at *; omega)), H', ⟨by first | omega | exact Nat.le_refl _⟩, by repeat (first | exact qau.refl _ | apply qau.step)⟩
 case rest =>
  clear HC3
  try clear c1
  try clear p2
  try clear c4
  try clear c4b0
  try clear c5
  try clear c5b0
  try clear c6
  try clear c6b0
  try clear c7
  try clear c7b0
  try clear c8
  try clear c8b0
  try clear c9
  try clear c9b0
  try clear c10
  try clear c10b0
  obtain ⟨kq, x6_2, x7_2, x8_2, rfl, rfl, rfl, HA, HJ2, ⟨mc2, rfl⟩⟩ := hcut
  cases kq with
  | zero => exact absurd HA.out (by simp [qbm.j0])
  | succ kj2 =>
   have H := HA.out
   clear HA
   simp only [qbm.j0] at H
   have HC11 := qa0.mk H
   clear H
   go_upto_region 2 with (fail)
   go_cut [9] (fun v9 wc => ∃ (kq : Nat) (x9_10 : Bool), v9 = .bool x9_10 ∧ qa0 (qbm.j1 kq a0 a1 x6_2 x7_2 x8_2 x9_10 = some (r1, r2)) ∧ qa0 (kq ≤ kj2) ∧ qau w wc)
   case first =>
    have H := HC11.out
    clear HC11
    by_cases c12 : a1 > 32
    ·rw [if_pos c12] at H
     have c12b0 : decide (32 < a1) = true := decide_eq_true c12
     clear c12
     (first | rw [c12b0] | (simp only [qbk, qcl]; rw [c12b0]) | skip)
     have H' := qa0.mk H
     clear H
     go_wp2
     go_meet
     case rel => exact ⟨_, (decide (a1 < 127)), (by first | rfl | (simp; done) | (simp [*]; done) | (exfalso; simp only [decide_eq_true_eq] at *; omega)), H', ⟨by have := HJ2.out; first | omega | exact Nat.le_refl _⟩, by repeat (first | exact qau.refl _ | apply qau.step)⟩
    ·rw [if_neg c12] at H
     have c12b0 : decide (32 < a1) = false := decide_eq_false c12
     clear c12
     (first | rw [c12b0] | (simp only [qbk, qcl]; rw [c12b0]) | skip)
     have H' := qa0.mk H
     clear H
     go_wp2
     go_meet
     case rel => exact ⟨_, (false), (by first | rfl | (simp; done) | (simp [*]; done) | (exfalso; simp only [decide_eq_true_eq] at *; omega)), H', ⟨by have := HJ2.out; first | omega | exact Nat.le_refl _⟩, by repeat (first | exact qau.refl _ | apply qau.step)⟩
   case rest =>
    clear HC11
    try clear c1
    try clear c2
    try clear p2
    try clear c4
    try clear c4b0
    try clear c5
    try clear c5b0
    try clear c6
    try clear c6b0
    try clear c7
    try clear c7b0
    try clear c8
    try clear c8b0
    try clear c9
    try clear c9b0
    try clear c10
    try clear c10b0
    try clear c12
    try clear c12b0
    try clear p2
    obtain ⟨kq, x9_10, rfl, HA, HJ10, ⟨mc10, rfl⟩⟩ := hcut
    cases kq with
    | zero => exact absurd HA.out (by simp [qbm.j1])
    | succ kj10 =>
     have H := HA.out
     clear HA
     simp only [qbm.j1] at H
     by_cases c13 : a0.toList = ([97, 108, 112, 104, 97] : List UInt8)
     ·rw [if_pos c13] at H
      have c13b0 : (a0.toList == ([97, 108, 112, 104, 97] : List UInt8)) = true := beq_iff_eq.mpr c13
      have c13b1 : (a0.toList != ([97, 108, 112, 104, 97] : List UInt8)) = false := bne_eq_false_iff_eq.mpr c13
      clear c13
      by_cases c14 : x6_2 = true
      ·subst c14
       have H1 : (some (true, true)) = some (r1, r2) := by rw [if_pos rfl] at H; exact H
       clear H
       have H := H1
       clear H1
       simp only [Option.some.injEq, Prod.mk.injEq] at H
       obtain ⟨rfl, rfl⟩ := H
       go_wp2
       go_ret2
       exact ⟨by first | rfl | (simp only [wrap_wrap]; done) | (simp only [wrap_wrap]; rfl) | (simp; done) | (simp [*]; done), by repeat (first | exact qau.refl _ | apply qau.step)⟩
      ·replace c14 := Bool.eq_false_iff.mpr c14
       subst c14
       have H1 : (some (x7_2, true)) = some (r1, r2) := by rw [if_neg (show ¬ (false = true) by decide)] at H; exact H
       clear H
       have H := H1
       clear H1
       simp only [Option.some.injEq, Prod.mk.injEq] at H
       obtain ⟨rfl, rfl⟩ := H
       go_wp2
       go_ret2
       exact ⟨by first | rfl | (simp only [wrap_wrap]; done) | (simp only [wrap_wrap]; rfl) | (simp; done) | (simp [*]; done), by repeat (first | exact qau.refl _ | apply qau.step)⟩
     ·rw [if_neg c13] at H
      have c13b0 : (a0.toList == ([97, 108, 112, 104, 97] : List UInt8)) = false := beq_eq_false_iff_ne.mpr c13
      have c13b1 : (a0.toList != ([97, 108, 112, 104, 97] : List UInt8)) = true := bne_iff_ne.mpr c13
      by_cases c15 : a0.toList = ([100, 105, 103, 105, 116] : List UInt8)
      ·rw [if_pos c15] at H
       have c15b0 : (a0.toList == ([100, 105, 103, 105, 116] : List UInt8)) = true := beq_iff_eq.mpr c15
       have c15b1 : (a0.toList != ([100, 105, 103, 105, 116] : List UInt8)) = false := bne_eq_false_iff_eq.mpr c15
       clear c15
       simp only [Option.some.injEq, Prod.mk.injEq] at H
       obtain ⟨rfl, rfl⟩ := H
       go_wp2
       go_ret2
       exact ⟨by first | rfl | (simp only [wrap_wrap]; done) | (simp only [wrap_wrap]; rfl) | (simp; done) | (simp [*]; done), by repeat (first | exact qau.refl _ | apply qau.step)⟩
      ·rw [if_neg c15] at H
       have c15b0 : (a0.toList == ([100, 105, 103, 105, 116] : List UInt8)) = false := beq_eq_false_iff_ne.mpr c15
       have c15b1 : (a0.toList != ([100, 105, 103, 105, 116] : List UInt8)) = true := bne_iff_ne.mpr c15
       by_cases c16 : a0.toList = ([97, 108, 110, 117, 109] : List UInt8)
       ·rw [if_pos c16] at H
        have c16b0 : (a0.toList == ([97, 108, 110, 117, 109] : List UInt8)) = true := beq_iff_eq.mpr c16
        have c16b1 : (a0.toList != ([97, 108, 110, 117, 109] : List UInt8)) = false := bne_eq_false_iff_eq.mpr c16
        clear c16
        by_cases c17 : x6_2 = true
        ·subst c17
         have H1 : (some (true, true)) = some (r1, r2) := by rw [if_pos rfl] at H; exact H
         clear H
         have H := H1
         clear H1
         simp only [Option.some.injEq, Prod.mk.injEq] at H
         obtain ⟨rfl, rfl⟩ := H
         go_wp2
         go_ret2
         exact ⟨by first | rfl | (simp only [wrap_wrap]; done) | (simp only [wrap_wrap]; rfl) | (simp; done) | (simp [*]; done), by repeat (first | exact qau.refl _ | apply qau.step)⟩
        ·replace c17 := Bool.eq_false_iff.mpr c17
         subst c17
         have H1 : (if x7_2 = true then (some (true, true)) else (some (x8_2, true))) = some (r1, r2) := by rw [if_neg (show ¬ (false = true) by decide)] at H; exact H
         clear H
         have H := H1
         clear H1
         by_cases c18 : x7_2 = true
         ·subst c18
          have H1 : (some (true, true)) = some (r1, r2) := by rw [if_pos rfl] at H; exact H
          clear H
          have H := H1
          clear H1
          simp only [Option.some.injEq, Prod.mk.injEq] at H
          obtain ⟨rfl, rfl⟩ := H
          go_wp2
          go_ret2
          exact ⟨by first | rfl | (simp only [wrap_wrap]; done) | (simp only [wrap_wrap]; rfl) | (simp; done) | (simp [*]; done), by repeat (first | exact qau.refl _ | apply qau.step)⟩
         ·replace c18 := Bool.eq_false_iff.mpr c18
          subst c18
          have H1 : (some (x8_2, true)) = some (r1, r2) := by rw [if_neg (show ¬ (false = true) by decide)] at H; exact H
          clear H
          have H := H1
          clear H1
          simp only [Option.some.injEq, Prod.mk.injEq] at H
          obtain ⟨rfl, rfl⟩ := H
          go_wp2
          go_ret2
          exact ⟨by first | rfl | (simp only [wrap_wrap]; done) | (simp only [wrap_wrap]; rfl) | (simp; done) | (simp [*]; done), by repeat (first | exact qau.refl _ | apply qau.step)⟩
       ·rw [if_neg c16] at H
        have c16b0 : (a0.toList == ([97, 108, 110, 117, 109] : List UInt8)) = false := beq_eq_false_iff_ne.mpr c16
        have c16b1 : (a0.toList != ([97, 108, 110, 117, 109] : List UInt8)) = true := bne_iff_ne.mpr c16
        by_cases c19 : a0.toList = ([117, 112, 112, 101, 114] : List UInt8)
        ·rw [if_pos c19] at H
         have c19b0 : (a0.toList == ([117, 112, 112, 101, 114] : List UInt8)) = true := beq_iff_eq.mpr c19
         have c19b1 : (a0.toList != ([117, 112, 112, 101, 114] : List UInt8)) = false := bne_eq_false_iff_eq.mpr c19
         clear c19
         simp only [Option.some.injEq, Prod.mk.injEq] at H
         obtain ⟨rfl, rfl⟩ := H
         go_wp2
         go_ret2
         exact ⟨by first | rfl | (simp only [wrap_wrap]; done) | (simp only [wrap_wrap]; rfl) | (simp; done) | (simp [*]; done), by repeat (first | exact qau.refl _ | apply qau.step)⟩
        ·rw [if_neg c19] at H
         have c19b0 : (a0.toList == ([117, 112, 112, 101, 114] : List UInt8)) = false := beq_eq_false_iff_ne.mpr c19
         have c19b1 : (a0.toList != ([117, 112, 112, 101, 114] : List UInt8)) = true := bne_iff_ne.mpr c19
         by_cases c20 : a0.toList = ([108, 111, 119, 101, 114] : List UInt8)
         ·rw [if_pos c20] at H
          have c20b0 : (a0.toList == ([108, 111, 119, 101, 114] : List UInt8)) = true := beq_iff_eq.mpr c20
          have c20b1 : (a0.toList != ([108, 111, 119, 101, 114] : List UInt8)) = false := bne_eq_false_iff_eq.mpr c20
          clear c20
          simp only [Option.some.injEq, Prod.mk.injEq] at H
          obtain ⟨rfl, rfl⟩ := H
          go_wp2
          go_ret2
          exact ⟨by first | rfl | (simp only [wrap_wrap]; done) | (simp only [wrap_wrap]; rfl) | (simp; done) | (simp [*]; done), by repeat (first | exact qau.refl _ | apply qau.step)⟩
         ·rw [if_neg c20] at H
          have c20b0 : (a0.toList == ([108, 111, 119, 101, 114] : List UInt8)) = false := beq_eq_false_iff_ne.mpr c20
          have c20b1 : (a0.toList != ([108, 111, 119, 101, 114] : List UInt8)) = true := bne_iff_ne.mpr c20
          by_cases c21 : a0.toList = ([115, 112, 97, 99, 101] : List UInt8)
          ·rw [if_pos c21] at H
           have c21b0 : (a0.toList == ([115, 112, 97, 99, 101] : List UInt8)) = true := beq_iff_eq.mpr c21
           have c21b1 : (a0.toList != ([115, 112, 97, 99, 101] : List UInt8)) = false := bne_eq_false_iff_eq.mpr c21
           clear c21
           by_cases c22 : a1 = 32
           ·rw [if_pos c22] at H
            have c22b0 : (a1 == 32) = true := beq_iff_eq.mpr c22
            have c22b1 : (a1 != 32) = false := bne_eq_false_iff_eq.mpr c22
            clear c22
            simp only [Option.some.injEq, Prod.mk.injEq] at H
            obtain ⟨rfl, rfl⟩ := H
            go_wp2
            go_ret2
            exact ⟨by first | rfl | (simp only [wrap_wrap]; done) | (simp only [wrap_wrap]; rfl) | (simp; done) | (simp [*]; done), by repeat (first | exact qau.refl _ | apply qau.step)⟩
           ·rw [if_neg c22] at H
            have c22b0 : (a1 == 32) = false := beq_eq_false_iff_ne.mpr c22
            have c22b1 : (a1 != 32) = true := bne_iff_ne.mpr c22
            by_cases c23 : a1 ≥ 9
            ·rw [if_pos c23] at H
             have c23b0 : decide (9 ≤ a1) = true := decide_eq_true c23
             clear c23
             simp only [Option.some.injEq, Prod.mk.injEq] at H
             obtain ⟨rfl, rfl⟩ := H
             go_wp2
             go_ret2
             exact ⟨by first | rfl | (simp only [wrap_wrap]; done) | (simp only [wrap_wrap]; rfl) | (simp; done) | (simp [*]; done), by repeat (first | exact qau.refl _ | apply qau.step)⟩
            ·rw [if_neg c23] at H
             have c23b0 : decide (9 ≤ a1) = false := decide_eq_false c23
             clear c23
             simp only [Option.some.injEq, Prod.mk.injEq] at H
             obtain ⟨rfl, rfl⟩ := H
             go_wp2
             go_ret2
             exact ⟨by first | rfl | (simp only [wrap_wrap]; done) | (simp only [wrap_wrap]; rfl) | (simp; done) | (simp [*]; done), by repeat (first | exact qau.refl _ | apply qau.step)⟩
          ·rw [if_neg c21] at H
           have c21b0 : (a0.toList == ([115, 112, 97, 99, 101] : List UInt8)) = false := beq_eq_false_iff_ne.mpr c21
           have c21b1 : (a0.toList != ([115, 112, 97, 99, 101] : List UInt8)) = true := bne_iff_ne.mpr c21
           by_cases c24 : a0.toList = ([98, 108, 97, 110, 107] : List UInt8)
           ·rw [if_pos c24] at H
            have c24b0 : (a0.toList == ([98, 108, 97, 110, 107] : List UInt8)) = true := beq_iff_eq.mpr c24
            have c24b1 : (a0.toList != ([98, 108, 97, 110, 107] : List UInt8)) = false := bne_eq_false_iff_eq.mpr c24
            clear c24
            by_cases c25 : a1 = 32
            ·rw [if_pos c25] at H
             have c25b0 : (a1 == 32) = true := beq_iff_eq.mpr c25
             have c25b1 : (a1 != 32) = false := bne_eq_false_iff_eq.mpr c25
             clear c25
             simp only [Option.some.injEq, Prod.mk.injEq] at H
             obtain ⟨rfl, rfl⟩ := H
             go_wp2
             go_ret2
             exact ⟨by first | rfl | (simp only [wrap_wrap]; done) | (simp only [wrap_wrap]; rfl) | (simp; done) | (simp [*]; done), by repeat (first | exact qau.refl _ | apply qau.step)⟩
            ·rw [if_neg c25] at H
             have c25b0 : (a1 == 32) = false := beq_eq_false_iff_ne.mpr c25
             have c25b1 : (a1 != 32) = true := bne_iff_ne.mpr c25
             simp only [Option.some.injEq, Prod.mk.injEq] at H
             obtain ⟨rfl, rfl⟩ := H
             go_wp2
             go_ret2
             exact ⟨by first | rfl | (simp only [wrap_wrap]; done) | (simp only [wrap_wrap]; rfl) | (simp; done) | (simp [*]; done), by repeat (first | exact qau.refl _ | apply qau.step)⟩
           ·rw [if_neg c24] at H
            have c24b0 : (a0.toList == ([98, 108, 97, 110, 107] : List UInt8)) = false := beq_eq_false_iff_ne.mpr c24
            have c24b1 : (a0.toList != ([98, 108, 97, 110, 107] : List UInt8)) = true := bne_iff_ne.mpr c24
            by_cases c26 : a0.toList = ([103, 114, 97, 112, 104] : List UInt8)
            ·rw [if_pos c26] at H
             have c26b0 : (a0.toList == ([103, 114, 97, 112, 104] : List UInt8)) = true := beq_iff_eq.mpr c26
             have c26b1 : (a0.toList != ([103, 114, 97, 112, 104] : List UInt8)) = false := bne_eq_false_iff_eq.mpr c26
             clear c26
             simp only [Option.some.injEq, Prod.mk.injEq] at H
             obtain ⟨rfl, rfl⟩ := H
             go_wp2
             go_ret2
             exact ⟨by first | rfl | (simp only [wrap_wrap]; done) | (simp only [wrap_wrap]; rfl) | (simp; done) | (simp [*]; done), by repeat (first | exact qau.refl _ | apply qau.step)⟩
            ·rw [if_neg c26] at H
             have c26b0 : (a0.toList == ([103, 114, 97, 112, 104] : List UInt8)) = false := beq_eq_false_iff_ne.mpr c26
             have c26b1 : (a0.toList != ([103, 114, 97, 112, 104] : List UInt8)) = true := bne_iff_ne.mpr c26
             by_cases c27 : a0.toList = ([112, 114, 105, 110, 116] : List UInt8)
             ·rw [if_pos c27] at H
              have c27b0 : (a0.toList == ([112, 114, 105, 110, 116] : List UInt8)) = true := beq_iff_eq.mpr c27
              have c27b1 : (a0.toList != ([112, 114, 105, 110, 116] : List UInt8)) = false := bne_eq_false_iff_eq.mpr c27
              clear c27
              by_cases c28 : x9_10 = true
              ·subst c28
               have H1 : (some (true, true)) = some (r1, r2) := by rw [if_pos rfl] at H; exact H
               clear H
               have H := H1
               clear H1
               simp only [Option.some.injEq, Prod.mk.injEq] at H
               obtain ⟨rfl, rfl⟩ := H
               go_wp2
               go_ret2
               exact ⟨by first | rfl | (simp only [wrap_wrap]; done) | (simp only [wrap_wrap]; rfl) | (simp; done) | (simp [*]; done), by repeat (first | exact qau.refl _ | apply qau.step)⟩
              ·replace c28 := Bool.eq_false_iff.mpr c28
               subst c28
               have H1 : (some ((a1 == 32), true)) = some (r1, r2) := by rw [if_neg (show ¬ (false = true) by decide)] at H; exact H
               clear H
               have H := H1
               clear H1
               simp only [Option.some.injEq, Prod.mk.injEq] at H
               obtain ⟨rfl, rfl⟩ := H
               go_wp2
               go_ret2
               exact ⟨by first | rfl | (simp only [wrap_wrap]; done) | (simp only [wrap_wrap]; rfl) | (simp; done) | (simp [*]; done), by repeat (first | exact qau.refl _ | apply qau.step)⟩
             ·rw [if_neg c27] at H
              have c27b0 : (a0.toList == ([112, 114, 105, 110, 116] : List UInt8)) = false := beq_eq_false_iff_ne.mpr c27
              have c27b1 : (a0.toList != ([112, 114, 105, 110, 116] : List UInt8)) = true := bne_iff_ne.mpr c27
              by_cases c29 : a0.toList = ([112, 117, 110, 99, 116] : List UInt8)
              ·rw [if_pos c29] at H
               have c29b0 : (a0.toList == ([112, 117, 110, 99, 116] : List UInt8)) = true := beq_iff_eq.mpr c29
               have c29b1 : (a0.toList != ([112, 117, 110, 99, 116] : List UInt8)) = false := bne_eq_false_iff_eq.mpr c29
               clear c29
               by_cases c30 : x9_10 = true
               ·subst c30
                have H1 : (if x6_2 = true then (some (false, true)) else (if x7_2 = true then (some (false, true)) else (some (!x8_2, true)))) = some (r1, r2) := by rw [if_pos rfl] at H; exact H
                clear H
                have H := H1
                clear H1
                by_cases c31 : x6_2 = true
                ·subst c31
                 have H1 : (some (false, true)) = some (r1, r2) := by rw [if_pos rfl] at H; exact H
                 clear H
                 have H := H1
                 clear H1
                 simp only [Option.some.injEq, Prod.mk.injEq] at H
                 obtain ⟨rfl, rfl⟩ := H
                 go_wp2
                 go_ret2
                 exact ⟨by first | rfl | (simp only [wrap_wrap]; done) | (simp only [wrap_wrap]; rfl) | (simp; done) | (simp [*]; done), by repeat (first | exact qau.refl _ | apply qau.step)⟩
                ·replace c31 := Bool.eq_false_iff.mpr c31
                 subst c31
                 have H1 : (if x7_2 = true then (some (false, true)) else (some (!x8_2, true))) = some (r1, r2) := by rw [if_neg (show ¬ (false = true) by decide)] at H; exact H
                 clear H
                 have H := H1
                 clear H1
                 by_cases c32 : x7_2 = true
                 ·subst c32
                  have H1 : (some (false, true)) = some (r1, r2) := by rw [if_pos rfl] at H; exact H
                  clear H
                  have H := H1
                  clear H1
                  simp only [Option.some.injEq, Prod.mk.injEq] at H
                  obtain ⟨rfl, rfl⟩ := H
                  go_wp2
                  go_ret2
                  exact ⟨by first | rfl | (simp only [wrap_wrap]; done) | (simp only [wrap_wrap]; rfl) | (simp; done) | (simp [*]; done), by repeat (first | exact qau.refl _ | apply qau.step)⟩
                 ·replace c32 := Bool.eq_false_iff.mpr c32
                  subst c32
                  have H1 : (some (!x8_2, true)) = some (r1, r2) := by rw [if_neg (show ¬ (false = true) by decide)] at H; exact H
                  clear H
                  have H := H1
                  clear H1
                  simp only [Option.some.injEq, Prod.mk.injEq] at H
                  obtain ⟨rfl, rfl⟩ := H
                  go_wp2
                  go_ret2
                  exact ⟨by first | rfl | (simp only [wrap_wrap]; done) | (simp only [wrap_wrap]; rfl) | (simp; done) | (simp [*]; done), by repeat (first | exact qau.refl _ | apply qau.step)⟩
               ·replace c30 := Bool.eq_false_iff.mpr c30
                subst c30
                have H1 : (some (false, true)) = some (r1, r2) := by rw [if_neg (show ¬ (false = true) by decide)] at H; exact H
                clear H
                have H := H1
                clear H1
                simp only [Option.some.injEq, Prod.mk.injEq] at H
                obtain ⟨rfl, rfl⟩ := H
                go_wp2
                go_ret2
                exact ⟨by first | rfl | (simp only [wrap_wrap]; done) | (simp only [wrap_wrap]; rfl) | (simp; done) | (simp [*]; done), by repeat (first | exact qau.refl _ | apply qau.step)⟩
              ·rw [if_neg c29] at H
               have c29b0 : (a0.toList == ([112, 117, 110, 99, 116] : List UInt8)) = false := beq_eq_false_iff_ne.mpr c29
               have c29b1 : (a0.toList != ([112, 117, 110, 99, 116] : List UInt8)) = true := bne_iff_ne.mpr c29
               by_cases c33 : a0.toList = ([99, 110, 116, 114, 108] : List UInt8)
               ·rw [if_pos c33] at H
                have c33b0 : (a0.toList == ([99, 110, 116, 114, 108] : List UInt8)) = true := beq_iff_eq.mpr c33
                have c33b1 : (a0.toList != ([99, 110, 116, 114, 108] : List UInt8)) = false := bne_eq_false_iff_eq.mpr c33
                clear c33
                by_cases c34 : a1 < 32
                ·rw [if_pos c34] at H
                 have c34b0 : decide (a1 < 32) = true := decide_eq_true c34
                 clear c34
                 simp only [Option.some.injEq, Prod.mk.injEq] at H
                 obtain ⟨rfl, rfl⟩ := H
                 go_wp2
                 go_ret2
                 exact ⟨by first | rfl | (simp only [wrap_wrap]; done) | (simp only [wrap_wrap]; rfl) | (simp; done) | (simp [*]; done), by repeat (first | exact qau.refl _ | apply qau.step)⟩
                ·rw [if_neg c34] at H
                 have c34b0 : decide (a1 < 32) = false := decide_eq_false c34
                 clear c34
                 simp only [Option.some.injEq, Prod.mk.injEq] at H
                 obtain ⟨rfl, rfl⟩ := H
                 go_wp2
                 go_ret2
                 exact ⟨by first | rfl | (simp only [wrap_wrap]; done) | (simp only [wrap_wrap]; rfl) | (simp; done) | (simp [*]; done), by repeat (first | exact qau.refl _ | apply qau.step)⟩
               ·rw [if_neg c33] at H
                have c33b0 : (a0.toList == ([99, 110, 116, 114, 108] : List UInt8)) = false := beq_eq_false_iff_ne.mpr c33
                have c33b1 : (a0.toList != ([99, 110, 116, 114, 108] : List UInt8)) = true := bne_iff_ne.mpr c33
                by_cases c35 : a0.toList = ([120, 100, 105, 103, 105, 116] : List UInt8)
                ·rw [if_pos c35] at H
                 have c35b0 : (a0.toList == ([120, 100, 105, 103, 105, 116] : List UInt8)) = true := beq_iff_eq.mpr c35
                 have c35b1 : (a0.toList != ([120, 100, 105, 103, 105, 116] : List UInt8)) = false := bne_eq_false_iff_eq.mpr c35
                 clear c35
                 by_cases c36 : x8_2 = true
                 ·subst c36
                  have H1 : (some (true, true)) = some (r1, r2) := by rw [if_pos rfl] at H; exact H
                  clear H
                  have H := H1
                  clear H1
                  simp only [Option.some.injEq, Prod.mk.injEq] at H
                  obtain ⟨rfl, rfl⟩ := H
                  go_wp2
                  go_ret2
                  exact ⟨by first | rfl | (simp only [wrap_wrap]; done) | (simp only [wrap_wrap]; rfl) | (simp; done) | (simp [*]; done), by repeat (first | exact qau.refl _ | apply qau.step)⟩
                 ·replace c36 := Bool.eq_false_iff.mpr c36
                  subst c36
                  have H1 : (if a1 ≥ 65 then (if a1 ≤ 70 then (some (true, true)) else (if a1 ≥ 97 then (some (decide (a1 ≤ 102), true)) else (some (false, true)))) else (if a1 ≥ 97 then (some (decide (a1 ≤ 102), true)) else (some (false, true)))) = some (r1, r2) := by rw [if_neg (show ¬ (false = true) by decide)] at H; exact H
                  clear H
                  have H := H1
                  clear H1
                  by_cases c37 : a1 ≥ 65
                  ·rw [if_pos c37] at H
                   have c37b0 : decide (65 ≤ a1) = true := decide_eq_true c37
                   clear c37
                   by_cases c38 : a1 ≤ 70
                   ·rw [if_pos c38] at H
                    have c38b0 : decide (a1 ≤ 70) = true := decide_eq_true c38
                    clear c38
                    simp only [Option.some.injEq, Prod.mk.injEq] at H
                    obtain ⟨rfl, rfl⟩ := H
                    go_wp2
                    go_ret2
                    exact ⟨by first | rfl | (simp only [wrap_wrap]; done) | (simp only [wrap_wrap]; rfl) | (simp; done) | (simp [*]; done), by repeat (first | exact qau.refl _ | apply qau.step)⟩
                   ·rw [if_neg c38] at H
                    have c38b0 : decide (a1 ≤ 70) = false := decide_eq_false c38
                    clear c38
                    by_cases c39 : a1 ≥ 97
                    ·rw [if_pos c39] at H
                     have c39b0 : decide (97 ≤ a1) = true := decide_eq_true c39
                     clear c39
                     simp only [Option.some.injEq, Prod.mk.injEq] at H
                     obtain ⟨rfl, rfl⟩ := H
                     go_wp2
                     go_ret2
                     exact ⟨by first | rfl | (simp only [wrap_wrap]; done) | (simp only [wrap_wrap]; rfl) | (simp; done) | (simp [*]; done), by repeat (first | exact qau.refl _ | apply qau.step)⟩
                    ·rw [if_neg c39] at H
                     have c39b0 : decide (97 ≤ a1) = false := decide_eq_false c39
                     clear c39
                     simp only [Option.some.injEq, Prod.mk.injEq] at H
                     obtain ⟨rfl, rfl⟩ := H
                     go_wp2
                     go_ret2
                     exact ⟨by first | rfl | (simp only [wrap_wrap]; done) | (simp only [wrap_wrap]; rfl) | (simp; done) | (simp [*]; done), by repeat (first | exact qau.refl _ | apply qau.step)⟩
                  ·rw [if_neg c37] at H
                   have c37b0 : decide (65 ≤ a1) = false := decide_eq_false c37
                   clear c37
                   by_cases c40 : a1 ≥ 97
                   ·rw [if_pos c40] at H
                    have c40b0 : decide (97 ≤ a1) = true := decide_eq_true c40
                    clear c40
                    simp only [Option.some.injEq, Prod.mk.injEq] at H
                    obtain ⟨rfl, rfl⟩ := H
                    go_wp2
                    go_ret2
                    exact ⟨by first | rfl | (simp only [wrap_wrap]; done) | (simp only [wrap_wrap]; rfl) | (simp; done) | (simp [*]; done), by repeat (first | exact qau.refl _ | apply qau.step)⟩
                   ·rw [if_neg c40] at H
                    have c40b0 : decide (97 ≤ a1) = false := decide_eq_false c40
                    clear c40
                    simp only [Option.some.injEq, Prod.mk.injEq] at H
                    obtain ⟨rfl, rfl⟩ := H
                    go_wp2
                    go_ret2
                    exact ⟨by first | rfl | (simp only [wrap_wrap]; done) | (simp only [wrap_wrap]; rfl) | (simp; done) | (simp [*]; done), by repeat (first | exact qau.refl _ | apply qau.step)⟩
                ·rw [if_neg c35] at H
                 have c35b0 : (a0.toList == ([120, 100, 105, 103, 105, 116] : List UInt8)) = false := beq_eq_false_iff_ne.mpr c35
                 have c35b1 : (a0.toList != ([120, 100, 105, 103, 105, 116] : List UInt8)) = true := bne_iff_ne.mpr c35
                 simp only [Option.some.injEq, Prod.mk.injEq] at H
                 obtain ⟨rfl, rfl⟩ := H
                 go_wp2
                 go_ret2
                 exact ⟨by first | rfl | (simp only [wrap_wrap]; done) | (simp only [wrap_wrap]; rfl) | (simp; done) | (simp [*]; done), by repeat (first | exact qau.refl _ | apply qau.step)⟩
end Go.Proofs.Ytcmipoicnonaeaa.F
end
section
namespace Go.Proofs.Ytcmipoicnonaeaa.F
open Go.RowKit Go.Proofs.YtcmipoicnonaeaaW.PrintWords Go.Proofs.YtcmipoicnonaeaaW.PrintLast Go.Proofs.YtcmipoicnonaeaaW.PrintMore
set_option linter.unusedVariables false
set_option linter.unusedSimpArgs false
def qfn (name : ByteArray) : Nat → Int → Int × Int × Int × Int → Option (Int × Int × Int × Int × Int)
  | 0, _, s => some (s.1, s.2.1, s.2.2.1, s.2.2.2, 0)
  | n + 1, b, s => (qbm.f 20 name b).bind fun t => if t.2 = true then qfn name n (b + 1) (if t.1 = true then (qcp s.1 0 b, qcp s.2.1 1 b, qcp s.2.2.1 2 b, qcp s.2.2.2 3 b) else s) else some (0, 0, 0, 0, 8)
def qcy.f (a0 : ByteArray) : Option (Int × Int × Int × Int × Int) := qfn a0 256 0 (0, 0, 0, 0)
set_option maxHeartbeats 2000000 in
set_option maxRecDepth 100000 in
theorem qcy.calls (a0 : ByteArray) (r1 r2 r3 r4 r5 : Int) (w : World) (h : qcy.f a0 = some (r1, r2, r3, r4, r5)) :
    Calls Try.prog 83 #[.string a0] w fun e w' => e = .returned (.tuple #[.agg #[.int .u64 r1, .int .u64 r2, .int .u64 r3, .int .u64 r4], .int .i64 r5]) ∧ Below w.heap.size w w' := by
  have H := qa0.mk (show qfn a0 256 0 (0, 0, 0, 0) = some (r1, r2, r3, r4, r5) from h)
  clear h
  go_enter Try.func83, Try.ntmps83
  go_wp2
  have HR : qa0 (((w.alloc (.cells #[.int .u64 0, .int .u64 0, .int .u64 0, .int .u64 0] 24 (0, 0))).alloc (.cells #[.int .u64 0, .int .u64 0, .int .u64 0, .int .u64 0] 24 (0, 0))).heap[w.heap.size]? = some (.cells #[.int .u64 0, .int .u64 0, .int .u64 0, .int .u64 0] 24 (0, 0))) := ⟨qa3 (qat w _) _⟩
  have HS : qa0 (((w.alloc (.cells #[.int .u64 0, .int .u64 0, .int .u64 0, .int .u64 0] 24 (0, 0))).alloc (.cells #[.int .u64 0, .int .u64 0, .int .u64 0, .int .u64 0] 24 (0, 0))).heap[w.heap.size + 1]? = some (.cells #[.int .u64 0, .int .u64 0, .int .u64 0, .int .u64 0] 24 (0, 0))) := ⟨by rw [← World.size_alloc]; exact qat _ _⟩
  have HB : qa0 (Below w.heap.size w ((w.alloc (.cells #[.int .u64 0, .int .u64 0, .int .u64 0, .int .u64 0] 24 (0, 0))).alloc (.cells #[.int .u64 0, .int .u64 0, .int .u64 0, .int .u64 0] 24 (0, 0)))) := ⟨qa6 (qa6 (Below.refl _ _) _) _⟩
  go_loopg [8] 256 (fun gk v8 wr => ∃ (i : Int) (s : Int × Int × Int × Int), v8 = .int .i64 i ∧ 0 ≤ i ∧ i + gk = 256 ∧ qa0 (qfn a0 gk i s = some (r1, r2, r3, r4, r5)) ∧ qa0 (wr.heap[w.heap.size]? = some (.cells #[.int .u64 0, .int .u64 0, .int .u64 0, .int .u64 0] 24 (0, 0))) ∧ qa0 (wr.heap[w.heap.size + 1]? = some (.cells #[.int .u64 s.1, .int .u64 s.2.1, .int .u64 s.2.2.1, .int .u64 s.2.2.2] 24 (0, 0))) ∧ qa0 (Below w.heap.size w wr))
  case atStart => exact ⟨0, (0, 0, 0, 0), rfl, by omega, by omega, H, HR, HS, HB⟩
  case round =>
    clear H HR HS HB
    obtain ⟨i, s, rfl, h0, hi, HE, HR, HS, HB⟩ := hrel
    have p0 : _ = some (Value.int .u64 0) := (qa2 HR.out 0).trans rfl
    have p1 : _ = some (Value.int .u64 0) := (qa2 HR.out 1).trans rfl
    have p2 : _ = some (Value.int .u64 0) := (qa2 HR.out 2).trans rfl
    have p3 : _ = some (Value.int .u64 0) := (qa2 HR.out 3).trans rfl
    have f0 := qa1 HR.out 0
    have f1 := qa1 HR.out 1
    have f2 := qa1 HR.out 2
    have f3 := qa1 HR.out 3
    cases gk with
    | zero =>
      have c2 : decide (i < 256) = false := decide_eq_false (by omega)
      have hE := HE.out
      rw [qfn] at hE
      simp only [Option.some.injEq, Prod.mk.injEq] at hE
      obtain ⟨rfl, rfl, rfl, rfl, rfl⟩ := hE
      clear hi HE
      have q0 : _ = some (Value.int .u64 s.1) := (qa2 HS.out 0).trans rfl
      have q1 : _ = some (Value.int .u64 s.2.1) := (qa2 HS.out 1).trans rfl
      have q2 : _ = some (Value.int .u64 s.2.2.1) := (qa2 HS.out 2).trans rfl
      have q3 : _ = some (Value.int .u64 s.2.2.2) := (qa2 HS.out 3).trans rfl
      go_wp2
      refine bodyPost_ret (qb3 (rs := [.cell 2 24, .tmp 3]) rfl (by simp) (.cell w.heap.size _ _ (0, 0) _ rfl (set4 HR.out _ _ _ _) Try.underlying24 rfl (by kernel_rfl) (.tmp .nil))) rfl ?_
      exact ⟨rfl, qdm HB.out (Nat.le_refl _)⟩
    | succ gk =>
      have c2 : decide (i < 256) = true := decide_eq_true (by omega)
      have hE := HE.out
      rw [qfn] at hE
      obtain ⟨⟨t1, t2⟩, ht, hE⟩ := Option.bind_eq_some_iff.1 hE
      have HT := qa0.mk ht
      have HI := qa0.mk (And.intro h0 hi)
      have hiw : IntKind.u8.wrap i = i := by
        simp [IntKind.wrap, IntKind.bits, IntKind.signed]
        omega
      have hin : IntKind.i64.wrap (i + 1) = i + 1 := by rw [qbk]; exact qbt (by omega) (by omega)
      have HX := qa0.mk (show i < 256 by omega)
      clear HE hi h0 ht
      cases t2 with
      | false =>
        rw [if_neg (fun h => by cases h)] at hE
        simp only [Option.some.injEq, Prod.mk.injEq] at hE
        obtain ⟨rfl, rfl, rfl, rfl, rfl⟩ := hE
        go_wp2_with (go_at_call 88; refine (qbm.calls 20 a0 i t1 false _ HT.out).mono ?_; rintro e w' ⟨rfl, ⟨n, rfl⟩⟩)
        refine bodyPost_ret (qb3 (rs := [.cell 2 24, .tmp 3]) rfl (by simp) (.cell w.heap.size _ _ (0, 0) _ rfl (set4 (qa4 HR.out _) _ _ _ _) Try.underlying24 rfl (by kernel_rfl) (.tmp .nil))) rfl ?_
        exact ⟨rfl, qdm (qa7 HB.out _) (Nat.le_refl _)⟩
      | true =>
        rw [if_pos rfl] at hE
        cases t1 with
        | false =>
          rw [if_neg (fun h => by cases h)] at hE
          have HE2 := qa0.mk hE
          clear hE
          go_wp2_with (go_at_call 88; refine (qbm.calls 20 a0 i false true _ HT.out).mono ?_; rintro e w' ⟨rfl, ⟨n, rfl⟩⟩)
          go_roundg gk
          case rel => exact ⟨i + 1, s, rfl, by have := HI.out; omega, by have := HI.out; omega, HE2, ⟨qa4 HR.out _⟩, ⟨qa4 HS.out _⟩, ⟨qa7 HB.out _⟩⟩
          case measure => omega
        | true =>
          rw [if_pos rfl] at hE
          have HE2 := qa0.mk hE
          clear hE
          go_wp2_with (first | (go_at_call 88; refine (qbm.calls 20 a0 i true true _ HT.out).mono ?_; rintro e w' ⟨rfl, ⟨n, rfl⟩⟩) | (go_at_call 77; refine (qfh (w.heap.size + 1) s.1 s.2.1 s.2.2.1 s.2.2.2 _ _ (qa4 HS.out _) HI.out.1 HX.out).mono ?_; rintro e w' ⟨rfl, hk', hg'⟩))
          go_roundg gk
          case rel => exact ⟨i + 1, _, rfl, by have := HI.out; omega, by have := HI.out; omega, HE2, ⟨qd0 (qa4 HR.out _) hg' (by simp)⟩, ⟨hk'⟩, ⟨(qa7 HB.out _).grown hg' (qa7 HB.out _).size (fun k e => by cases e; omega)⟩⟩
          case measure => omega
end Go.Proofs.Ytcmipoicnonaeaa.F
end
