-- Made by a program of this session (wip/tools/pr.py over the kit's printer). Not trusted: Lean checks it.
import Derived.Test.YtdlbmajilmmapaaProg
import Derived.Below
import Derived.Deep.Draws
import Derived.Deep.AppendLies
import Derived.Maps.AppendAt
import Derived.OwnWalk
import Derived.Laws.BytesArg
import Derived.Laws.MakeOwn
import Derived.Laws.OwnMore
import Derived.Deep.OwnRows
import Derived.Tactics
import Derived.Lib.ConvBytes
import Derived.Laws.Slices
import Derived.WalkKit
import Derived.KernelRfl
import Derived.RowKit3
import Derived.Deep.LoopGhost
import Derived.Deep.QuietTactic
import Derived.BigQuiet
import Derived.WideLaws
import Derived.Deep.DeepCutAuto
import Derived.Deep.CutBlock
import Derived.Deep.RegionHeld3
import Derived.Laws.Rows
import Derived.Lib.AppendStr
import Derived.ArgAppend
import Derived.Laws.IdiomCopy
import Derived.OrdersHeld
import Derived.Laws.BitsLemmas
import Derived.RowKit
import Derived.WalkMore
import Derived.Test.YtdlbmajilmmapaaWWords
import Derived.Test.YtdlbmajilmmapaaWLast
import Derived.Test.YtdlbmajilmmapaaWTab
import Derived.Test.YtdlbmajilmmapaaWFour
import Derived.Test.YtdlbmajilmmapaaWQPut
import Derived.Test.YtdlbmajilmmapaaWApart
import Derived.Test.YtdlbmajilmmapaaWArr
import Derived.Test.YtdlbmajilmmapaaWZeros
import Derived.Test.YtdlbmajilmmapaaWFoot
import Derived.Test.YtdlbmajilmmapaaWKept
import Derived.Test.YtdlbmajilmmapaaWShare
import Derived.Test.YtdlbmajilmmapaaWN
import Derived.Test.YtdlbmajilmmapaaWFootNe
import Derived.Test.YtdlbmajilmmapaaWAt
import Derived.Test.YtdlbmajilmmapaaWEqStruct
import Derived.Test.YtdlbmajilmmapaaWRepsOne
import Derived.Test.YtdlbmajilmmapaaWInv
import Derived.Test.YtdlbmajilmmapaaWInvWords
import Derived.Test.YtdlbmajilmmapaaWGuard
import Derived.Test.YtdlbmajilmmapaaWNEv
import Derived.Test.YtdlbmajilmmapaaWMore
namespace Go.Proofs.Ytdlbmajilmmapaa.F
open Go.RowKit Go.Proofs.YtdlbmajilmmapaaW.PrintWords Go.Proofs.YtdlbmajilmmapaaW.PrintLast Go.Proofs.YtdlbmajilmmapaaW.PrintMore
attribute [local go_sem] max2_int min2_int max_two min_two max_three min_three max_four min_four
set_option linter.unusedVariables false
set_option linter.unusedSimpArgs false

theorem wrap_wrap (x y : Int) : wrap64 (wrap64 x + y) = wrap64 (x + y) := by unfold wrap64; omega
def errW : Option Int → Value
  | none => .nilIface
  | some c => .iface 0 (.int .i64 c)
theorem errW_none : errW none = .nilIface := rfl
theorem errW_some (c : Int) : errW (some c) = .iface 0 (.int .i64 c) := rfl

theorem info3 : (Try.prog.info? 3).map (fun i => (i.zero, i.size, i.bytes)) = some (some (.int .i64 0), 1, 8) := by kernel_rfl
theorem info4 : (Try.prog.info? 4).map (fun i => (i.zero, i.size, i.bytes)) = some (some (.bool false), 1, 1) := by kernel_rfl
theorem info5 : (Try.prog.info? 5).map (fun i => (i.zero, i.size, i.bytes)) = some (some (.int .u8 0), 1, 1) := by kernel_rfl
theorem info9 : (Try.prog.info? 9).map (fun i => (i.zero, i.size, i.bytes)) = some (some (.string ⟨#[]⟩), 1, 16) := by kernel_rfl
theorem info27 : (Try.prog.info? 27).map (fun i => (i.zero, i.size, i.bytes)) = some (some (.agg #[(.int .i64 0), (.int .i64 0), (.int .i64 0), (.string ⟨#[]⟩), (.int .i64 0), (.int .i64 0), (.string ⟨#[]⟩), (.bool false), (.int .u8 0), (.string ⟨#[]⟩), (.string ⟨#[]⟩), (.string ⟨#[]⟩), (.string ⟨#[]⟩), (.slice none 0 0), (.int .i64 0), (.bool false), (.bool false), (.string ⟨#[]⟩), (.string ⟨#[]⟩)]), 19, 216) := by kernel_rfl
theorem info55 : (Try.prog.info? 55).map (fun i => (i.zero, i.size, i.bytes)) = some (some (.agg #[(.int .i64 0), (.int .i64 0)]), 2, 16) := by kernel_rfl
theorem info76 : (Try.prog.info? 76).map (fun i => (i.zero, i.size, i.bytes)) = some (some (.agg #[(.int .i64 0), (.string ⟨#[]⟩), (.string ⟨#[]⟩), (.int .u8 0)]), 4, 48) := by kernel_rfl
theorem info98 : (Try.prog.info? 98).map (fun i => (i.zero, i.size, i.bytes)) = some (some (.agg #[(.string ⟨#[]⟩), (.string ⟨#[]⟩)]), 2, 32) := by kernel_rfl
theorem info117 : (Try.prog.info? 117).map (fun i => (i.zero, i.size, i.bytes)) = some (some (.agg #[(.int .i64 0), (.string ⟨#[]⟩)]), 2, 24) := by kernel_rfl
/-! #### struct type 7 -/
structure S7 where
  f0 : Int
  f1 : Int
  f2 : Bool
  f3 : Int
def z7 : S7 := ⟨(0 : Int), (0 : Int), false, (0 : Int)⟩
def k7 : Kd S7 := Kd.iso (Kd.pair (Kd.int .i64) (Kd.pair (Kd.int .i64) (Kd.pair Kd.bool (Kd.int .u8)))) (fun x : S7 => (x.f0, x.f1, x.f2, x.f3))
theorem k7_heap : Kd.Heap k7 := Kd.heap_iso _ (Kd.heap_pair (Kd.heap_int .i64) (Kd.heap_pair (Kd.heap_int .i64) (Kd.heap_pair Kd.heap_bool (Kd.heap_int .u8))))
theorem k7_open {w : World} {x : S7} {cs : List Value} (h : k7.K w x cs) : cs = [.int .i64 x.f0, .int .i64 x.f1, .bool x.f2, .int .u8 x.f3] := by
  obtain ⟨_, _, rfl, rfl, ⟨_, _, rfl, rfl, ⟨_, _, rfl, rfl, rfl⟩⟩⟩ := h
  exact rfl
theorem k7_openM {w : World} {base : Nat} {ok : Nat → Prop} {x : S7} {cs : List Value} (h : k7.M w base ok x cs) : cs = [.int .i64 x.f0, .int .i64 x.f1, .bool x.f2, .int .u8 x.f3] := by
  obtain ⟨_, _, rfl, rfl, ⟨_, _, rfl, rfl, ⟨_, _, rfl, rfl, rfl⟩⟩⟩ := h
  exact rfl
theorem k7_mk (w : World) (x : S7)  : k7.K w x [.int .i64 x.f0, .int .i64 x.f1, .bool x.f2, .int .u8 x.f3] := ⟨[.int .i64 x.f0], [.int .i64 x.f1, .bool x.f2, .int .u8 x.f3], rfl, rfl, ⟨[.int .i64 x.f1], [.bool x.f2, .int .u8 x.f3], rfl, rfl, ⟨[.bool x.f2], [.int .u8 x.f3], rfl, rfl, rfl⟩⟩⟩
theorem k7_mkM (w : World) (base : Nat) (ok : Nat → Prop) (x : S7)  : k7.M w base ok x [.int .i64 x.f0, .int .i64 x.f1, .bool x.f2, .int .u8 x.f3] := ⟨[.int .i64 x.f0], [.int .i64 x.f1, .bool x.f2, .int .u8 x.f3], rfl, rfl, ⟨[.int .i64 x.f1], [.bool x.f2, .int .u8 x.f3], rfl, rfl, ⟨[.bool x.f2], [.int .u8 x.f3], rfl, rfl, rfl⟩⟩⟩
theorem k7_mkF (W : World) (ok : Nat → Prop) (x : S7) : Kd.FK k7 W ok x [.int .i64 x.f0, .int .i64 x.f1, .bool x.f2, .int .u8 x.f3] := fun W2 _ => k7_mk W2 x
def rd_T7 (xs : List S7) (i : Int) : S7 := xs.getD i.toNat z7
theorem at_T7 {w : World} {A : Option Addr} {n : Nat} {xs : List S7} (h : Kd.C k7 w A n xs) (i : Int) (h0 : 0 ≤ i) (h1 : i < n) : ∃ ad , A = some ad ∧ w.cell? (ad.add (i.toNat * 4)) = some (.int .i64 (rd_T7 xs i).f0) ∧ w.cell? ⟨(ad.add (i.toNat * 4)).block, (ad.add (i.toNat * 4)).off + 1, none⟩ = some (.int .i64 (rd_T7 xs i).f1) ∧ w.cell? ⟨(ad.add (i.toNat * 4)).block, (ad.add (i.toNat * 4)).off + 2, none⟩ = some (.bool (rd_T7 xs i).f2) ∧ w.cell? ⟨(ad.add (i.toNat * 4)).block, (ad.add (i.toNat * 4)).off + 3, none⟩ = some (.int .u8 (rd_T7 xs i).f3) := by
  obtain ⟨ad, c, e, _, hK, hc0⟩ := Kd.C_get h z7 i h0 h1
  have hc : ∀ j u, c[j]? = some u → w.cell? (ad.add (i.toNat * 4 + j)) = some u := hc0
  obtain rfl := k7_open hK
  exact ⟨ad, e, hc 0 _ rfl, by rw [← add_field _ _ 1 (by omega)]; exact hc 1 _ rfl, by rw [← add_field _ _ 2 (by omega)]; exact hc 2 _ rfl, by rw [← add_field _ _ 3 (by omega)]; exact hc 3 _ rfl⟩

/-! #### struct type 8 -/
structure S8 where
  f0 : Int
  f1 : Int
  f2 : Bool
  f3 : Int
def z8 : S8 := ⟨(0 : Int), (0 : Int), false, (0 : Int)⟩
def k8 : Kd S8 := Kd.iso (Kd.pair (Kd.int .i64) (Kd.pair (Kd.int .i64) (Kd.pair Kd.bool (Kd.int .u8)))) (fun x : S8 => (x.f0, x.f1, x.f2, x.f3))
theorem k8_heap : Kd.Heap k8 := Kd.heap_iso _ (Kd.heap_pair (Kd.heap_int .i64) (Kd.heap_pair (Kd.heap_int .i64) (Kd.heap_pair Kd.heap_bool (Kd.heap_int .u8))))
theorem k8_open {w : World} {x : S8} {cs : List Value} (h : k8.K w x cs) : cs = [.int .i64 x.f0, .int .i64 x.f1, .bool x.f2, .int .u8 x.f3] := by
  obtain ⟨_, _, rfl, rfl, ⟨_, _, rfl, rfl, ⟨_, _, rfl, rfl, rfl⟩⟩⟩ := h
  exact rfl
theorem k8_openM {w : World} {base : Nat} {ok : Nat → Prop} {x : S8} {cs : List Value} (h : k8.M w base ok x cs) : cs = [.int .i64 x.f0, .int .i64 x.f1, .bool x.f2, .int .u8 x.f3] := by
  obtain ⟨_, _, rfl, rfl, ⟨_, _, rfl, rfl, ⟨_, _, rfl, rfl, rfl⟩⟩⟩ := h
  exact rfl
theorem k8_mk (w : World) (x : S8)  : k8.K w x [.int .i64 x.f0, .int .i64 x.f1, .bool x.f2, .int .u8 x.f3] := ⟨[.int .i64 x.f0], [.int .i64 x.f1, .bool x.f2, .int .u8 x.f3], rfl, rfl, ⟨[.int .i64 x.f1], [.bool x.f2, .int .u8 x.f3], rfl, rfl, ⟨[.bool x.f2], [.int .u8 x.f3], rfl, rfl, rfl⟩⟩⟩
theorem k8_mkM (w : World) (base : Nat) (ok : Nat → Prop) (x : S8)  : k8.M w base ok x [.int .i64 x.f0, .int .i64 x.f1, .bool x.f2, .int .u8 x.f3] := ⟨[.int .i64 x.f0], [.int .i64 x.f1, .bool x.f2, .int .u8 x.f3], rfl, rfl, ⟨[.int .i64 x.f1], [.bool x.f2, .int .u8 x.f3], rfl, rfl, ⟨[.bool x.f2], [.int .u8 x.f3], rfl, rfl, rfl⟩⟩⟩
theorem k8_mkF (W : World) (ok : Nat → Prop) (x : S8) : Kd.FK k8 W ok x [.int .i64 x.f0, .int .i64 x.f1, .bool x.f2, .int .u8 x.f3] := fun W2 _ => k8_mk W2 x
def rd_T8 (xs : List S8) (i : Int) : S8 := xs.getD i.toNat z8
theorem at_T8 {w : World} {A : Option Addr} {n : Nat} {xs : List S8} (h : Kd.C k8 w A n xs) (i : Int) (h0 : 0 ≤ i) (h1 : i < n) : ∃ ad , A = some ad ∧ w.cell? (ad.add (i.toNat * 4)) = some (.int .i64 (rd_T8 xs i).f0) ∧ w.cell? ⟨(ad.add (i.toNat * 4)).block, (ad.add (i.toNat * 4)).off + 1, none⟩ = some (.int .i64 (rd_T8 xs i).f1) ∧ w.cell? ⟨(ad.add (i.toNat * 4)).block, (ad.add (i.toNat * 4)).off + 2, none⟩ = some (.bool (rd_T8 xs i).f2) ∧ w.cell? ⟨(ad.add (i.toNat * 4)).block, (ad.add (i.toNat * 4)).off + 3, none⟩ = some (.int .u8 (rd_T8 xs i).f3) := by
  obtain ⟨ad, c, e, _, hK, hc0⟩ := Kd.C_get h z8 i h0 h1
  have hc : ∀ j u, c[j]? = some u → w.cell? (ad.add (i.toNat * 4 + j)) = some u := hc0
  obtain rfl := k8_open hK
  exact ⟨ad, e, hc 0 _ rfl, by rw [← add_field _ _ 1 (by omega)]; exact hc 1 _ rfl, by rw [← add_field _ _ 2 (by omega)]; exact hc 2 _ rfl, by rw [← add_field _ _ 3 (by omega)]; exact hc 3 _ rfl⟩

/-! #### struct type 13 -/
structure S13 where
  f0 : ByteArray
  f1 : Int
def z13 : S13 := ⟨(⟨#[]⟩ : ByteArray), (0 : Int)⟩
def k13 : Kd S13 := Kd.iso (Kd.pair Kd.string (Kd.int .u64)) (fun x : S13 => (x.f0, x.f1))
theorem k13_heap : Kd.Heap k13 := Kd.heap_iso _ (Kd.heap_pair Kd.heap_string (Kd.heap_int .u64))
theorem k13_open {w : World} {x : S13} {cs : List Value} (h : k13.K w x cs) : cs = [.string x.f0, .int .u64 x.f1] := by
  obtain ⟨_, _, rfl, rfl, rfl⟩ := h
  exact rfl
theorem k13_openM {w : World} {base : Nat} {ok : Nat → Prop} {x : S13} {cs : List Value} (h : k13.M w base ok x cs) : cs = [.string x.f0, .int .u64 x.f1] := by
  obtain ⟨_, _, rfl, rfl, rfl⟩ := h
  exact rfl
theorem k13_mk (w : World) (x : S13)  : k13.K w x [.string x.f0, .int .u64 x.f1] := ⟨[.string x.f0], [.int .u64 x.f1], rfl, rfl, rfl⟩
theorem k13_mkM (w : World) (base : Nat) (ok : Nat → Prop) (x : S13)  : k13.M w base ok x [.string x.f0, .int .u64 x.f1] := ⟨[.string x.f0], [.int .u64 x.f1], rfl, rfl, rfl⟩
theorem k13_mkF (W : World) (ok : Nat → Prop) (x : S13) : Kd.FK k13 W ok x [.string x.f0, .int .u64 x.f1] := fun W2 _ => k13_mk W2 x
def rd_T13 (xs : List S13) (i : Int) : S13 := xs.getD i.toNat z13
theorem at_T13 {w : World} {A : Option Addr} {n : Nat} {xs : List S13} (h : Kd.C k13 w A n xs) (i : Int) (h0 : 0 ≤ i) (h1 : i < n) : ∃ ad , A = some ad ∧ w.cell? (ad.add (i.toNat * 2)) = some (.string (rd_T13 xs i).f0) ∧ w.cell? ⟨(ad.add (i.toNat * 2)).block, (ad.add (i.toNat * 2)).off + 1, none⟩ = some (.int .u64 (rd_T13 xs i).f1) := by
  obtain ⟨ad, c, e, _, hK, hc0⟩ := Kd.C_get h z13 i h0 h1
  have hc : ∀ j u, c[j]? = some u → w.cell? (ad.add (i.toNat * 2 + j)) = some u := hc0
  obtain rfl := k13_open hK
  exact ⟨ad, e, hc 0 _ rfl, by rw [← add_field _ _ 1 (by omega)]; exact hc 1 _ rfl⟩

/-! #### struct type 14 -/
structure S14 where
  f0 : ByteArray
  f1 : Int
def z14 : S14 := ⟨(⟨#[]⟩ : ByteArray), (0 : Int)⟩
def k14 : Kd S14 := Kd.iso (Kd.pair Kd.string (Kd.int .u64)) (fun x : S14 => (x.f0, x.f1))
theorem k14_heap : Kd.Heap k14 := Kd.heap_iso _ (Kd.heap_pair Kd.heap_string (Kd.heap_int .u64))
theorem k14_open {w : World} {x : S14} {cs : List Value} (h : k14.K w x cs) : cs = [.string x.f0, .int .u64 x.f1] := by
  obtain ⟨_, _, rfl, rfl, rfl⟩ := h
  exact rfl
theorem k14_openM {w : World} {base : Nat} {ok : Nat → Prop} {x : S14} {cs : List Value} (h : k14.M w base ok x cs) : cs = [.string x.f0, .int .u64 x.f1] := by
  obtain ⟨_, _, rfl, rfl, rfl⟩ := h
  exact rfl
theorem k14_mk (w : World) (x : S14)  : k14.K w x [.string x.f0, .int .u64 x.f1] := ⟨[.string x.f0], [.int .u64 x.f1], rfl, rfl, rfl⟩
theorem k14_mkM (w : World) (base : Nat) (ok : Nat → Prop) (x : S14)  : k14.M w base ok x [.string x.f0, .int .u64 x.f1] := ⟨[.string x.f0], [.int .u64 x.f1], rfl, rfl, rfl⟩
theorem k14_mkF (W : World) (ok : Nat → Prop) (x : S14) : Kd.FK k14 W ok x [.string x.f0, .int .u64 x.f1] := fun W2 _ => k14_mk W2 x
def rd_T14 (xs : List S14) (i : Int) : S14 := xs.getD i.toNat z14
theorem at_T14 {w : World} {A : Option Addr} {n : Nat} {xs : List S14} (h : Kd.C k14 w A n xs) (i : Int) (h0 : 0 ≤ i) (h1 : i < n) : ∃ ad , A = some ad ∧ w.cell? (ad.add (i.toNat * 2)) = some (.string (rd_T14 xs i).f0) ∧ w.cell? ⟨(ad.add (i.toNat * 2)).block, (ad.add (i.toNat * 2)).off + 1, none⟩ = some (.int .u64 (rd_T14 xs i).f1) := by
  obtain ⟨ad, c, e, _, hK, hc0⟩ := Kd.C_get h z14 i h0 h1
  have hc : ∀ j u, c[j]? = some u → w.cell? (ad.add (i.toNat * 2 + j)) = some u := hc0
  obtain rfl := k14_open hK
  exact ⟨ad, e, hc 0 _ rfl, by rw [← add_field _ _ 1 (by omega)]; exact hc 1 _ rfl⟩

/-! #### struct type 24 -/
structure S24 where
  f0 : Int
  f1 : Int
  f2 : ByteArray
def z24 : S24 := ⟨(0 : Int), (0 : Int), (⟨#[]⟩ : ByteArray)⟩
def k24 : Kd S24 := Kd.iso (Kd.pair (Kd.int .i64) (Kd.pair (Kd.int .i64) Kd.string)) (fun x : S24 => (x.f0, x.f1, x.f2))
theorem k24_heap : Kd.Heap k24 := Kd.heap_iso _ (Kd.heap_pair (Kd.heap_int .i64) (Kd.heap_pair (Kd.heap_int .i64) Kd.heap_string))
theorem k24_open {w : World} {x : S24} {cs : List Value} (h : k24.K w x cs) : cs = [.int .i64 x.f0, .int .i64 x.f1, .string x.f2] := by
  obtain ⟨_, _, rfl, rfl, ⟨_, _, rfl, rfl, rfl⟩⟩ := h
  exact rfl
theorem k24_openM {w : World} {base : Nat} {ok : Nat → Prop} {x : S24} {cs : List Value} (h : k24.M w base ok x cs) : cs = [.int .i64 x.f0, .int .i64 x.f1, .string x.f2] := by
  obtain ⟨_, _, rfl, rfl, ⟨_, _, rfl, rfl, rfl⟩⟩ := h
  exact rfl
theorem k24_mk (w : World) (x : S24)  : k24.K w x [.int .i64 x.f0, .int .i64 x.f1, .string x.f2] := ⟨[.int .i64 x.f0], [.int .i64 x.f1, .string x.f2], rfl, rfl, ⟨[.int .i64 x.f1], [.string x.f2], rfl, rfl, rfl⟩⟩
theorem k24_mkM (w : World) (base : Nat) (ok : Nat → Prop) (x : S24)  : k24.M w base ok x [.int .i64 x.f0, .int .i64 x.f1, .string x.f2] := ⟨[.int .i64 x.f0], [.int .i64 x.f1, .string x.f2], rfl, rfl, ⟨[.int .i64 x.f1], [.string x.f2], rfl, rfl, rfl⟩⟩
theorem k24_mkF (W : World) (ok : Nat → Prop) (x : S24) : Kd.FK k24 W ok x [.int .i64 x.f0, .int .i64 x.f1, .string x.f2] := fun W2 _ => k24_mk W2 x
def rd_T24 (xs : List S24) (i : Int) : S24 := xs.getD i.toNat z24
theorem at_T24 {w : World} {A : Option Addr} {n : Nat} {xs : List S24} (h : Kd.C k24 w A n xs) (i : Int) (h0 : 0 ≤ i) (h1 : i < n) : ∃ ad , A = some ad ∧ w.cell? (ad.add (i.toNat * 3)) = some (.int .i64 (rd_T24 xs i).f0) ∧ w.cell? ⟨(ad.add (i.toNat * 3)).block, (ad.add (i.toNat * 3)).off + 1, none⟩ = some (.int .i64 (rd_T24 xs i).f1) ∧ w.cell? ⟨(ad.add (i.toNat * 3)).block, (ad.add (i.toNat * 3)).off + 2, none⟩ = some (.string (rd_T24 xs i).f2) := by
  obtain ⟨ad, c, e, _, hK, hc0⟩ := Kd.C_get h z24 i h0 h1
  have hc : ∀ j u, c[j]? = some u → w.cell? (ad.add (i.toNat * 3 + j)) = some u := hc0
  obtain rfl := k24_open hK
  exact ⟨ad, e, hc 0 _ rfl, by rw [← add_field _ _ 1 (by omega)]; exact hc 1 _ rfl, by rw [← add_field _ _ 2 (by omega)]; exact hc 2 _ rfl⟩

/-! #### struct type 117 -/
structure S117 where
  f0 : Int
  f1 : ByteArray
def z117 : S117 := ⟨(0 : Int), (⟨#[]⟩ : ByteArray)⟩
def k117 : Kd S117 := Kd.iso (Kd.pair (Kd.int .i64) Kd.string) (fun x : S117 => (x.f0, x.f1))
theorem k117_heap : Kd.Heap k117 := Kd.heap_iso _ (Kd.heap_pair (Kd.heap_int .i64) Kd.heap_string)
theorem k117_open {w : World} {x : S117} {cs : List Value} (h : k117.K w x cs) : cs = [.int .i64 x.f0, .string x.f1] := by
  obtain ⟨_, _, rfl, rfl, rfl⟩ := h
  exact rfl
theorem k117_openM {w : World} {base : Nat} {ok : Nat → Prop} {x : S117} {cs : List Value} (h : k117.M w base ok x cs) : cs = [.int .i64 x.f0, .string x.f1] := by
  obtain ⟨_, _, rfl, rfl, rfl⟩ := h
  exact rfl
theorem k117_mk (w : World) (x : S117)  : k117.K w x [.int .i64 x.f0, .string x.f1] := ⟨[.int .i64 x.f0], [.string x.f1], rfl, rfl, rfl⟩
theorem k117_mkM (w : World) (base : Nat) (ok : Nat → Prop) (x : S117)  : k117.M w base ok x [.int .i64 x.f0, .string x.f1] := ⟨[.int .i64 x.f0], [.string x.f1], rfl, rfl, rfl⟩
theorem k117_mkF (W : World) (ok : Nat → Prop) (x : S117) : Kd.FK k117 W ok x [.int .i64 x.f0, .string x.f1] := fun W2 _ => k117_mk W2 x
def rd_T117 (xs : List S117) (i : Int) : S117 := xs.getD i.toNat z117
theorem at_T117 {w : World} {A : Option Addr} {n : Nat} {xs : List S117} (h : Kd.C k117 w A n xs) (i : Int) (h0 : 0 ≤ i) (h1 : i < n) : ∃ ad , A = some ad ∧ w.cell? (ad.add (i.toNat * 2)) = some (.int .i64 (rd_T117 xs i).f0) ∧ w.cell? ⟨(ad.add (i.toNat * 2)).block, (ad.add (i.toNat * 2)).off + 1, none⟩ = some (.string (rd_T117 xs i).f1) := by
  obtain ⟨ad, c, e, _, hK, hc0⟩ := Kd.C_get h z117 i h0 h1
  have hc : ∀ j u, c[j]? = some u → w.cell? (ad.add (i.toNat * 2 + j)) = some u := hc0
  obtain rfl := k117_open hK
  exact ⟨ad, e, hc 0 _ rfl, by rw [← add_field _ _ 1 (by omega)]; exact hc 1 _ rfl⟩

def rd_L11 (xs : List (List S117)) (i : Int) : (List S117) := xs.getD i.toNat ([] : List S117)
theorem at_L11 {w : World} {A : Option Addr} {n : Nat} {xs : List (List S117)} (h : Kd.C (Kd.slice 117 k117) w A n xs) (i : Int) (h0 : 0 ≤ i) (h1 : i < n) : ∃ ad A0 c0, A = some ad ∧ w.cell? (ad.add i.toNat) = some (.slice A0 (rd_L11 xs i).length c0) ∧ (rd_L11 xs i).length ≤ c0 ∧ k117.C w A0 (rd_L11 xs i).length (rd_L11 xs i) := by
  obtain ⟨ad, c, e, _, hK, hc0⟩ := Kd.C_get h ([] : List S117) i h0 h1
  have hc : ∀ j u, c[j]? = some u → w.cell? (ad.add (i.toNat * 1 + j)) = some u := hc0
  obtain ⟨A0, c0, rfl, l0, g0⟩ := hK
  exact ⟨ad, A0, c0, e, by have hq := hc 0 _ rfl; rwa [Nat.mul_one, Nat.add_zero] at hq, l0, g0⟩

/-! #### struct type 27 -/
structure S27 where
  f0 : Int
  f1 : S24
  f2 : S24
  f3 : Bool
  f4 : Int
  f5 : ByteArray
  f6 : ByteArray
  f7 : ByteArray
  f8 : ByteArray
  f9 : (List S117)
  f10 : Int
  f11 : Bool
  f12 : Bool
  f13 : ByteArray
  f14 : ByteArray
def z27 : S27 := ⟨(0 : Int), z24, z24, false, (0 : Int), (⟨#[]⟩ : ByteArray), (⟨#[]⟩ : ByteArray), (⟨#[]⟩ : ByteArray), (⟨#[]⟩ : ByteArray), ([] : List S117), (0 : Int), false, false, (⟨#[]⟩ : ByteArray), (⟨#[]⟩ : ByteArray)⟩
def k27 : Kd S27 := Kd.iso (Kd.pair (Kd.int .i64) (Kd.pair k24 (Kd.pair k24 (Kd.pair Kd.bool (Kd.pair (Kd.int .u8) (Kd.pair Kd.string (Kd.pair Kd.string (Kd.pair Kd.string (Kd.pair Kd.string (Kd.pair (Kd.slice 117 k117) (Kd.pair (Kd.int .i64) (Kd.pair Kd.bool (Kd.pair Kd.bool (Kd.pair Kd.string Kd.string)))))))))))))) (fun x : S27 => (x.f0, x.f1, x.f2, x.f3, x.f4, x.f5, x.f6, x.f7, x.f8, x.f9, x.f10, x.f11, x.f12, x.f13, x.f14))
theorem k27_heap : Kd.Heap k27 := Kd.heap_iso _ (Kd.heap_pair (Kd.heap_int .i64) (Kd.heap_pair k24_heap (Kd.heap_pair k24_heap (Kd.heap_pair Kd.heap_bool (Kd.heap_pair (Kd.heap_int .u8) (Kd.heap_pair Kd.heap_string (Kd.heap_pair Kd.heap_string (Kd.heap_pair Kd.heap_string (Kd.heap_pair Kd.heap_string (Kd.heap_pair (Kd.heap_slice 117 k117_heap) (Kd.heap_pair (Kd.heap_int .i64) (Kd.heap_pair Kd.heap_bool (Kd.heap_pair Kd.heap_bool (Kd.heap_pair Kd.heap_string Kd.heap_string))))))))))))))
theorem k27_open {w : World} {x : S27} {cs : List Value} (h : k27.K w x cs) : ∃ A13 c13, cs = [.int .i64 x.f0, .int .i64 x.f1.f0, .int .i64 x.f1.f1, .string x.f1.f2, .int .i64 x.f2.f0, .int .i64 x.f2.f1, .string x.f2.f2, .bool x.f3, .int .u8 x.f4, .string x.f5, .string x.f6, .string x.f7, .string x.f8, .slice A13 x.f9.length c13, .int .i64 x.f10, .bool x.f11, .bool x.f12, .string x.f13, .string x.f14] ∧ x.f9.length ≤ c13 ∧ k117.C w A13 x.f9.length x.f9 := by
  obtain ⟨_, _, rfl, rfl, ⟨_, _, rfl, s1, ⟨_, _, rfl, s4, ⟨_, _, rfl, rfl, ⟨_, _, rfl, rfl, ⟨_, _, rfl, rfl, ⟨_, _, rfl, rfl, ⟨_, _, rfl, rfl, ⟨_, _, rfl, rfl, ⟨_, _, rfl, ⟨A13, c13, rfl, l13, g13⟩, ⟨_, _, rfl, rfl, ⟨_, _, rfl, rfl, ⟨_, _, rfl, rfl, ⟨_, _, rfl, rfl, rfl⟩⟩⟩⟩⟩⟩⟩⟩⟩⟩⟩⟩⟩⟩ := h
  obtain rfl := k24_open s1
  obtain rfl := k24_open s4
  exact ⟨A13, c13, rfl, l13, g13⟩
theorem k27_openM {w : World} {base : Nat} {ok : Nat → Prop} {x : S27} {cs : List Value} (h : k27.M w base ok x cs) : ∃ v13, cs = [.int .i64 x.f0, .int .i64 x.f1.f0, .int .i64 x.f1.f1, .string x.f1.f2, .int .i64 x.f2.f0, .int .i64 x.f2.f1, .string x.f2.f2, .bool x.f3, .int .u8 x.f4, .string x.f5, .string x.f6, .string x.f7, .string x.f8, v13, .int .i64 x.f10, .bool x.f11, .bool x.f12, .string x.f13, .string x.f14] ∧ k117.R 117 w base ok v13 x.f9 := by
  obtain ⟨_, _, rfl, rfl, ⟨_, _, rfl, s1, ⟨_, _, rfl, s4, ⟨_, _, rfl, rfl, ⟨_, _, rfl, rfl, ⟨_, _, rfl, rfl, ⟨_, _, rfl, rfl, ⟨_, _, rfl, rfl, ⟨_, _, rfl, rfl, ⟨_, _, rfl, ⟨v13, rfl, g13⟩, ⟨_, _, rfl, rfl, ⟨_, _, rfl, rfl, ⟨_, _, rfl, rfl, ⟨_, _, rfl, rfl, rfl⟩⟩⟩⟩⟩⟩⟩⟩⟩⟩⟩⟩⟩⟩ := h
  obtain rfl := k24_openM s1
  obtain rfl := k24_openM s4
  exact ⟨v13, rfl, g13⟩
theorem k27_mk (w : World) (x : S27) {A13 : Option Addr} {c13 : Nat} (l13 : x.f9.length ≤ c13) (g13 : k117.C w A13 x.f9.length x.f9) : k27.K w x [.int .i64 x.f0, .int .i64 x.f1.f0, .int .i64 x.f1.f1, .string x.f1.f2, .int .i64 x.f2.f0, .int .i64 x.f2.f1, .string x.f2.f2, .bool x.f3, .int .u8 x.f4, .string x.f5, .string x.f6, .string x.f7, .string x.f8, .slice A13 x.f9.length c13, .int .i64 x.f10, .bool x.f11, .bool x.f12, .string x.f13, .string x.f14] := ⟨[.int .i64 x.f0], [.int .i64 x.f1.f0, .int .i64 x.f1.f1, .string x.f1.f2, .int .i64 x.f2.f0, .int .i64 x.f2.f1, .string x.f2.f2, .bool x.f3, .int .u8 x.f4, .string x.f5, .string x.f6, .string x.f7, .string x.f8, .slice A13 x.f9.length c13, .int .i64 x.f10, .bool x.f11, .bool x.f12, .string x.f13, .string x.f14], rfl, rfl, ⟨[.int .i64 x.f1.f0, .int .i64 x.f1.f1, .string x.f1.f2], [.int .i64 x.f2.f0, .int .i64 x.f2.f1, .string x.f2.f2, .bool x.f3, .int .u8 x.f4, .string x.f5, .string x.f6, .string x.f7, .string x.f8, .slice A13 x.f9.length c13, .int .i64 x.f10, .bool x.f11, .bool x.f12, .string x.f13, .string x.f14], rfl, (k24_mk w x.f1 ), ⟨[.int .i64 x.f2.f0, .int .i64 x.f2.f1, .string x.f2.f2], [.bool x.f3, .int .u8 x.f4, .string x.f5, .string x.f6, .string x.f7, .string x.f8, .slice A13 x.f9.length c13, .int .i64 x.f10, .bool x.f11, .bool x.f12, .string x.f13, .string x.f14], rfl, (k24_mk w x.f2 ), ⟨[.bool x.f3], [.int .u8 x.f4, .string x.f5, .string x.f6, .string x.f7, .string x.f8, .slice A13 x.f9.length c13, .int .i64 x.f10, .bool x.f11, .bool x.f12, .string x.f13, .string x.f14], rfl, rfl, ⟨[.int .u8 x.f4], [.string x.f5, .string x.f6, .string x.f7, .string x.f8, .slice A13 x.f9.length c13, .int .i64 x.f10, .bool x.f11, .bool x.f12, .string x.f13, .string x.f14], rfl, rfl, ⟨[.string x.f5], [.string x.f6, .string x.f7, .string x.f8, .slice A13 x.f9.length c13, .int .i64 x.f10, .bool x.f11, .bool x.f12, .string x.f13, .string x.f14], rfl, rfl, ⟨[.string x.f6], [.string x.f7, .string x.f8, .slice A13 x.f9.length c13, .int .i64 x.f10, .bool x.f11, .bool x.f12, .string x.f13, .string x.f14], rfl, rfl, ⟨[.string x.f7], [.string x.f8, .slice A13 x.f9.length c13, .int .i64 x.f10, .bool x.f11, .bool x.f12, .string x.f13, .string x.f14], rfl, rfl, ⟨[.string x.f8], [.slice A13 x.f9.length c13, .int .i64 x.f10, .bool x.f11, .bool x.f12, .string x.f13, .string x.f14], rfl, rfl, ⟨[.slice A13 x.f9.length c13], [.int .i64 x.f10, .bool x.f11, .bool x.f12, .string x.f13, .string x.f14], rfl, ⟨A13, c13, rfl, l13, g13⟩, ⟨[.int .i64 x.f10], [.bool x.f11, .bool x.f12, .string x.f13, .string x.f14], rfl, rfl, ⟨[.bool x.f11], [.bool x.f12, .string x.f13, .string x.f14], rfl, rfl, ⟨[.bool x.f12], [.string x.f13, .string x.f14], rfl, rfl, ⟨[.string x.f13], [.string x.f14], rfl, rfl, rfl⟩⟩⟩⟩⟩⟩⟩⟩⟩⟩⟩⟩⟩⟩
theorem k27_mkM (w : World) (base : Nat) (ok : Nat → Prop) (x : S27) {v13 : Value} (g13 : k117.R 117 w base ok v13 x.f9) : k27.M w base ok x [.int .i64 x.f0, .int .i64 x.f1.f0, .int .i64 x.f1.f1, .string x.f1.f2, .int .i64 x.f2.f0, .int .i64 x.f2.f1, .string x.f2.f2, .bool x.f3, .int .u8 x.f4, .string x.f5, .string x.f6, .string x.f7, .string x.f8, v13, .int .i64 x.f10, .bool x.f11, .bool x.f12, .string x.f13, .string x.f14] := ⟨[.int .i64 x.f0], [.int .i64 x.f1.f0, .int .i64 x.f1.f1, .string x.f1.f2, .int .i64 x.f2.f0, .int .i64 x.f2.f1, .string x.f2.f2, .bool x.f3, .int .u8 x.f4, .string x.f5, .string x.f6, .string x.f7, .string x.f8, v13, .int .i64 x.f10, .bool x.f11, .bool x.f12, .string x.f13, .string x.f14], rfl, rfl, ⟨[.int .i64 x.f1.f0, .int .i64 x.f1.f1, .string x.f1.f2], [.int .i64 x.f2.f0, .int .i64 x.f2.f1, .string x.f2.f2, .bool x.f3, .int .u8 x.f4, .string x.f5, .string x.f6, .string x.f7, .string x.f8, v13, .int .i64 x.f10, .bool x.f11, .bool x.f12, .string x.f13, .string x.f14], rfl, (k24_mkM w base ok x.f1 ), ⟨[.int .i64 x.f2.f0, .int .i64 x.f2.f1, .string x.f2.f2], [.bool x.f3, .int .u8 x.f4, .string x.f5, .string x.f6, .string x.f7, .string x.f8, v13, .int .i64 x.f10, .bool x.f11, .bool x.f12, .string x.f13, .string x.f14], rfl, (k24_mkM w base ok x.f2 ), ⟨[.bool x.f3], [.int .u8 x.f4, .string x.f5, .string x.f6, .string x.f7, .string x.f8, v13, .int .i64 x.f10, .bool x.f11, .bool x.f12, .string x.f13, .string x.f14], rfl, rfl, ⟨[.int .u8 x.f4], [.string x.f5, .string x.f6, .string x.f7, .string x.f8, v13, .int .i64 x.f10, .bool x.f11, .bool x.f12, .string x.f13, .string x.f14], rfl, rfl, ⟨[.string x.f5], [.string x.f6, .string x.f7, .string x.f8, v13, .int .i64 x.f10, .bool x.f11, .bool x.f12, .string x.f13, .string x.f14], rfl, rfl, ⟨[.string x.f6], [.string x.f7, .string x.f8, v13, .int .i64 x.f10, .bool x.f11, .bool x.f12, .string x.f13, .string x.f14], rfl, rfl, ⟨[.string x.f7], [.string x.f8, v13, .int .i64 x.f10, .bool x.f11, .bool x.f12, .string x.f13, .string x.f14], rfl, rfl, ⟨[.string x.f8], [v13, .int .i64 x.f10, .bool x.f11, .bool x.f12, .string x.f13, .string x.f14], rfl, rfl, ⟨[v13], [.int .i64 x.f10, .bool x.f11, .bool x.f12, .string x.f13, .string x.f14], rfl, ⟨v13, rfl, g13⟩, ⟨[.int .i64 x.f10], [.bool x.f11, .bool x.f12, .string x.f13, .string x.f14], rfl, rfl, ⟨[.bool x.f11], [.bool x.f12, .string x.f13, .string x.f14], rfl, rfl, ⟨[.bool x.f12], [.string x.f13, .string x.f14], rfl, rfl, ⟨[.string x.f13], [.string x.f14], rfl, rfl, rfl⟩⟩⟩⟩⟩⟩⟩⟩⟩⟩⟩⟩⟩⟩
theorem k27_openF {W : World} {ok : Nat → Prop} {x : S27} {cs : List Value} (h : Kd.FK k27 W ok x cs) : ∃ A13 c13, cs = [.int .i64 x.f0, .int .i64 x.f1.f0, .int .i64 x.f1.f1, .string x.f1.f2, .int .i64 x.f2.f0, .int .i64 x.f2.f1, .string x.f2.f2, .bool x.f3, .int .u8 x.f4, .string x.f5, .string x.f6, .string x.f7, .string x.f8, .slice A13 x.f9.length c13, .int .i64 x.f10, .bool x.f11, .bool x.f12, .string x.f13, .string x.f14] ∧ x.f9.length ≤ c13 ∧ Kd.F k117 W ok A13 x.f9.length x.f9 := by
  obtain ⟨A13, c13, rfl, l13, _⟩ := k27_open (Kd.FK_now h)
  exact ⟨A13, c13, rfl, l13, (fun W' hW => by obtain ⟨A13_, c13_, he, l13_, g13_⟩ := k27_open (h W' hW); injection (Option.some.inj (show some (Value.slice A13 x.f9.length c13) = some (Value.slice A13_ x.f9.length c13_) from congrArg (fun l => l[13]?) he)) with ha_ _ _; rw [ha_]; exact g13_)⟩
theorem k27_mkF (W : World) (ok : Nat → Prop) (x : S27) {A13 : Option Addr} {c13 : Nat} (l13 : x.f9.length ≤ c13) (g13 : Kd.F k117 W ok A13 x.f9.length x.f9) : Kd.FK k27 W ok x [.int .i64 x.f0, .int .i64 x.f1.f0, .int .i64 x.f1.f1, .string x.f1.f2, .int .i64 x.f2.f0, .int .i64 x.f2.f1, .string x.f2.f2, .bool x.f3, .int .u8 x.f4, .string x.f5, .string x.f6, .string x.f7, .string x.f8, .slice A13 x.f9.length c13, .int .i64 x.f10, .bool x.f11, .bool x.f12, .string x.f13, .string x.f14] := fun W2 hW => k27_mk W2 x l13 (g13 W2 hW)
def rd_T27 (xs : List S27) (i : Int) : S27 := xs.getD i.toNat z27
theorem at_T27 {w : World} {A : Option Addr} {n : Nat} {xs : List S27} (h : Kd.C k27 w A n xs) (i : Int) (h0 : 0 ≤ i) (h1 : i < n) : ∃ ad A13 c13, A = some ad ∧ w.cell? (ad.add (i.toNat * 19)) = some (.int .i64 (rd_T27 xs i).f0) ∧ w.cell? ⟨(ad.add (i.toNat * 19)).block, (ad.add (i.toNat * 19)).off + 1, none⟩ = some (.int .i64 (rd_T27 xs i).f1.f0) ∧ w.cell? ⟨(ad.add (i.toNat * 19)).block, (ad.add (i.toNat * 19)).off + 2, none⟩ = some (.int .i64 (rd_T27 xs i).f1.f1) ∧ w.cell? ⟨(ad.add (i.toNat * 19)).block, (ad.add (i.toNat * 19)).off + 3, none⟩ = some (.string (rd_T27 xs i).f1.f2) ∧ w.cell? ⟨(ad.add (i.toNat * 19)).block, (ad.add (i.toNat * 19)).off + 4, none⟩ = some (.int .i64 (rd_T27 xs i).f2.f0) ∧ w.cell? ⟨(ad.add (i.toNat * 19)).block, (ad.add (i.toNat * 19)).off + 5, none⟩ = some (.int .i64 (rd_T27 xs i).f2.f1) ∧ w.cell? ⟨(ad.add (i.toNat * 19)).block, (ad.add (i.toNat * 19)).off + 6, none⟩ = some (.string (rd_T27 xs i).f2.f2) ∧ w.cell? ⟨(ad.add (i.toNat * 19)).block, (ad.add (i.toNat * 19)).off + 7, none⟩ = some (.bool (rd_T27 xs i).f3) ∧ w.cell? ⟨(ad.add (i.toNat * 19)).block, (ad.add (i.toNat * 19)).off + 8, none⟩ = some (.int .u8 (rd_T27 xs i).f4) ∧ w.cell? ⟨(ad.add (i.toNat * 19)).block, (ad.add (i.toNat * 19)).off + 9, none⟩ = some (.string (rd_T27 xs i).f5) ∧ w.cell? ⟨(ad.add (i.toNat * 19)).block, (ad.add (i.toNat * 19)).off + 10, none⟩ = some (.string (rd_T27 xs i).f6) ∧ w.cell? ⟨(ad.add (i.toNat * 19)).block, (ad.add (i.toNat * 19)).off + 11, none⟩ = some (.string (rd_T27 xs i).f7) ∧ w.cell? ⟨(ad.add (i.toNat * 19)).block, (ad.add (i.toNat * 19)).off + 12, none⟩ = some (.string (rd_T27 xs i).f8) ∧ w.cell? ⟨(ad.add (i.toNat * 19)).block, (ad.add (i.toNat * 19)).off + 13, none⟩ = some (.slice A13 (rd_T27 xs i).f9.length c13) ∧ w.cell? ⟨(ad.add (i.toNat * 19)).block, (ad.add (i.toNat * 19)).off + 14, none⟩ = some (.int .i64 (rd_T27 xs i).f10) ∧ w.cell? ⟨(ad.add (i.toNat * 19)).block, (ad.add (i.toNat * 19)).off + 15, none⟩ = some (.bool (rd_T27 xs i).f11) ∧ w.cell? ⟨(ad.add (i.toNat * 19)).block, (ad.add (i.toNat * 19)).off + 16, none⟩ = some (.bool (rd_T27 xs i).f12) ∧ w.cell? ⟨(ad.add (i.toNat * 19)).block, (ad.add (i.toNat * 19)).off + 17, none⟩ = some (.string (rd_T27 xs i).f13) ∧ w.cell? ⟨(ad.add (i.toNat * 19)).block, (ad.add (i.toNat * 19)).off + 18, none⟩ = some (.string (rd_T27 xs i).f14) ∧ (rd_T27 xs i).f9.length ≤ c13 ∧ k117.C w A13 (rd_T27 xs i).f9.length (rd_T27 xs i).f9 := by
  obtain ⟨ad, c, e, _, hK, hc0⟩ := Kd.C_get h z27 i h0 h1
  have hc : ∀ j u, c[j]? = some u → w.cell? (ad.add (i.toNat * 19 + j)) = some u := hc0
  obtain ⟨A13, c13, rfl, l13, g13⟩ := k27_open hK
  exact ⟨ad, A13, c13, e, hc 0 _ rfl, by rw [← add_field _ _ 1 (by omega)]; exact hc 1 _ rfl, by rw [← add_field _ _ 2 (by omega)]; exact hc 2 _ rfl, by rw [← add_field _ _ 3 (by omega)]; exact hc 3 _ rfl, by rw [← add_field _ _ 4 (by omega)]; exact hc 4 _ rfl, by rw [← add_field _ _ 5 (by omega)]; exact hc 5 _ rfl, by rw [← add_field _ _ 6 (by omega)]; exact hc 6 _ rfl, by rw [← add_field _ _ 7 (by omega)]; exact hc 7 _ rfl, by rw [← add_field _ _ 8 (by omega)]; exact hc 8 _ rfl, by rw [← add_field _ _ 9 (by omega)]; exact hc 9 _ rfl, by rw [← add_field _ _ 10 (by omega)]; exact hc 10 _ rfl, by rw [← add_field _ _ 11 (by omega)]; exact hc 11 _ rfl, by rw [← add_field _ _ 12 (by omega)]; exact hc 12 _ rfl, by rw [← add_field _ _ 13 (by omega)]; exact hc 13 _ rfl, by rw [← add_field _ _ 14 (by omega)]; exact hc 14 _ rfl, by rw [← add_field _ _ 15 (by omega)]; exact hc 15 _ rfl, by rw [← add_field _ _ 16 (by omega)]; exact hc 16 _ rfl, by rw [← add_field _ _ 17 (by omega)]; exact hc 17 _ rfl, by rw [← add_field _ _ 18 (by omega)]; exact hc 18 _ rfl, l13, g13⟩

def rd_L13 (xs : List (List S27)) (i : Int) : (List S27) := xs.getD i.toNat ([] : List S27)
theorem at_L13 {w : World} {A : Option Addr} {n : Nat} {xs : List (List S27)} (h : Kd.C (Kd.slice 27 k27) w A n xs) (i : Int) (h0 : 0 ≤ i) (h1 : i < n) : ∃ ad A0 c0, A = some ad ∧ w.cell? (ad.add i.toNat) = some (.slice A0 (rd_L13 xs i).length c0) ∧ (rd_L13 xs i).length ≤ c0 ∧ k27.C w A0 (rd_L13 xs i).length (rd_L13 xs i) := by
  obtain ⟨ad, c, e, _, hK, hc0⟩ := Kd.C_get h ([] : List S27) i h0 h1
  have hc : ∀ j u, c[j]? = some u → w.cell? (ad.add (i.toNat * 1 + j)) = some u := hc0
  obtain ⟨A0, c0, rfl, l0, g0⟩ := hK
  exact ⟨ad, A0, c0, e, by have hq := hc 0 _ rfl; rwa [Nat.mul_one, Nat.add_zero] at hq, l0, g0⟩

/-! #### struct type 23 -/
structure S23 where
  f0 : Int
  f1 : Int
  f2 : ByteArray
def z23 : S23 := ⟨(0 : Int), (0 : Int), (⟨#[]⟩ : ByteArray)⟩
def k23 : Kd S23 := Kd.iso (Kd.pair (Kd.int .i64) (Kd.pair (Kd.int .i64) Kd.string)) (fun x : S23 => (x.f0, x.f1, x.f2))
theorem k23_heap : Kd.Heap k23 := Kd.heap_iso _ (Kd.heap_pair (Kd.heap_int .i64) (Kd.heap_pair (Kd.heap_int .i64) Kd.heap_string))
theorem k23_open {w : World} {x : S23} {cs : List Value} (h : k23.K w x cs) : cs = [.int .i64 x.f0, .int .i64 x.f1, .string x.f2] := by
  obtain ⟨_, _, rfl, rfl, ⟨_, _, rfl, rfl, rfl⟩⟩ := h
  exact rfl
theorem k23_openM {w : World} {base : Nat} {ok : Nat → Prop} {x : S23} {cs : List Value} (h : k23.M w base ok x cs) : cs = [.int .i64 x.f0, .int .i64 x.f1, .string x.f2] := by
  obtain ⟨_, _, rfl, rfl, ⟨_, _, rfl, rfl, rfl⟩⟩ := h
  exact rfl
theorem k23_mk (w : World) (x : S23)  : k23.K w x [.int .i64 x.f0, .int .i64 x.f1, .string x.f2] := ⟨[.int .i64 x.f0], [.int .i64 x.f1, .string x.f2], rfl, rfl, ⟨[.int .i64 x.f1], [.string x.f2], rfl, rfl, rfl⟩⟩
theorem k23_mkM (w : World) (base : Nat) (ok : Nat → Prop) (x : S23)  : k23.M w base ok x [.int .i64 x.f0, .int .i64 x.f1, .string x.f2] := ⟨[.int .i64 x.f0], [.int .i64 x.f1, .string x.f2], rfl, rfl, ⟨[.int .i64 x.f1], [.string x.f2], rfl, rfl, rfl⟩⟩
theorem k23_mkF (W : World) (ok : Nat → Prop) (x : S23) : Kd.FK k23 W ok x [.int .i64 x.f0, .int .i64 x.f1, .string x.f2] := fun W2 _ => k23_mk W2 x
def rd_T23 (xs : List S23) (i : Int) : S23 := xs.getD i.toNat z23
theorem at_T23 {w : World} {A : Option Addr} {n : Nat} {xs : List S23} (h : Kd.C k23 w A n xs) (i : Int) (h0 : 0 ≤ i) (h1 : i < n) : ∃ ad , A = some ad ∧ w.cell? (ad.add (i.toNat * 3)) = some (.int .i64 (rd_T23 xs i).f0) ∧ w.cell? ⟨(ad.add (i.toNat * 3)).block, (ad.add (i.toNat * 3)).off + 1, none⟩ = some (.int .i64 (rd_T23 xs i).f1) ∧ w.cell? ⟨(ad.add (i.toNat * 3)).block, (ad.add (i.toNat * 3)).off + 2, none⟩ = some (.string (rd_T23 xs i).f2) := by
  obtain ⟨ad, c, e, _, hK, hc0⟩ := Kd.C_get h z23 i h0 h1
  have hc : ∀ j u, c[j]? = some u → w.cell? (ad.add (i.toNat * 3 + j)) = some u := hc0
  obtain rfl := k23_open hK
  exact ⟨ad, e, hc 0 _ rfl, by rw [← add_field _ _ 1 (by omega)]; exact hc 1 _ rfl, by rw [← add_field _ _ 2 (by omega)]; exact hc 2 _ rfl⟩

/-! #### struct type 26 -/
structure S26 where
  f0 : Int
  f1 : S24
  f2 : S24
  f3 : Bool
  f4 : Int
  f5 : ByteArray
  f6 : ByteArray
  f7 : ByteArray
  f8 : ByteArray
  f9 : (List S117)
  f10 : Int
  f11 : Bool
  f12 : Bool
  f13 : ByteArray
  f14 : ByteArray
def z26 : S26 := ⟨(0 : Int), z24, z24, false, (0 : Int), (⟨#[]⟩ : ByteArray), (⟨#[]⟩ : ByteArray), (⟨#[]⟩ : ByteArray), (⟨#[]⟩ : ByteArray), ([] : List S117), (0 : Int), false, false, (⟨#[]⟩ : ByteArray), (⟨#[]⟩ : ByteArray)⟩
def k26 : Kd S26 := Kd.iso (Kd.pair (Kd.int .i64) (Kd.pair k24 (Kd.pair k24 (Kd.pair Kd.bool (Kd.pair (Kd.int .u8) (Kd.pair Kd.string (Kd.pair Kd.string (Kd.pair Kd.string (Kd.pair Kd.string (Kd.pair (Kd.slice 117 k117) (Kd.pair (Kd.int .i64) (Kd.pair Kd.bool (Kd.pair Kd.bool (Kd.pair Kd.string Kd.string)))))))))))))) (fun x : S26 => (x.f0, x.f1, x.f2, x.f3, x.f4, x.f5, x.f6, x.f7, x.f8, x.f9, x.f10, x.f11, x.f12, x.f13, x.f14))
theorem k26_heap : Kd.Heap k26 := Kd.heap_iso _ (Kd.heap_pair (Kd.heap_int .i64) (Kd.heap_pair k24_heap (Kd.heap_pair k24_heap (Kd.heap_pair Kd.heap_bool (Kd.heap_pair (Kd.heap_int .u8) (Kd.heap_pair Kd.heap_string (Kd.heap_pair Kd.heap_string (Kd.heap_pair Kd.heap_string (Kd.heap_pair Kd.heap_string (Kd.heap_pair (Kd.heap_slice 117 k117_heap) (Kd.heap_pair (Kd.heap_int .i64) (Kd.heap_pair Kd.heap_bool (Kd.heap_pair Kd.heap_bool (Kd.heap_pair Kd.heap_string Kd.heap_string))))))))))))))
theorem k26_open {w : World} {x : S26} {cs : List Value} (h : k26.K w x cs) : ∃ A13 c13, cs = [.int .i64 x.f0, .int .i64 x.f1.f0, .int .i64 x.f1.f1, .string x.f1.f2, .int .i64 x.f2.f0, .int .i64 x.f2.f1, .string x.f2.f2, .bool x.f3, .int .u8 x.f4, .string x.f5, .string x.f6, .string x.f7, .string x.f8, .slice A13 x.f9.length c13, .int .i64 x.f10, .bool x.f11, .bool x.f12, .string x.f13, .string x.f14] ∧ x.f9.length ≤ c13 ∧ k117.C w A13 x.f9.length x.f9 := by
  obtain ⟨_, _, rfl, rfl, ⟨_, _, rfl, s1, ⟨_, _, rfl, s4, ⟨_, _, rfl, rfl, ⟨_, _, rfl, rfl, ⟨_, _, rfl, rfl, ⟨_, _, rfl, rfl, ⟨_, _, rfl, rfl, ⟨_, _, rfl, rfl, ⟨_, _, rfl, ⟨A13, c13, rfl, l13, g13⟩, ⟨_, _, rfl, rfl, ⟨_, _, rfl, rfl, ⟨_, _, rfl, rfl, ⟨_, _, rfl, rfl, rfl⟩⟩⟩⟩⟩⟩⟩⟩⟩⟩⟩⟩⟩⟩ := h
  obtain rfl := k24_open s1
  obtain rfl := k24_open s4
  exact ⟨A13, c13, rfl, l13, g13⟩
theorem k26_openM {w : World} {base : Nat} {ok : Nat → Prop} {x : S26} {cs : List Value} (h : k26.M w base ok x cs) : ∃ v13, cs = [.int .i64 x.f0, .int .i64 x.f1.f0, .int .i64 x.f1.f1, .string x.f1.f2, .int .i64 x.f2.f0, .int .i64 x.f2.f1, .string x.f2.f2, .bool x.f3, .int .u8 x.f4, .string x.f5, .string x.f6, .string x.f7, .string x.f8, v13, .int .i64 x.f10, .bool x.f11, .bool x.f12, .string x.f13, .string x.f14] ∧ k117.R 117 w base ok v13 x.f9 := by
  obtain ⟨_, _, rfl, rfl, ⟨_, _, rfl, s1, ⟨_, _, rfl, s4, ⟨_, _, rfl, rfl, ⟨_, _, rfl, rfl, ⟨_, _, rfl, rfl, ⟨_, _, rfl, rfl, ⟨_, _, rfl, rfl, ⟨_, _, rfl, rfl, ⟨_, _, rfl, ⟨v13, rfl, g13⟩, ⟨_, _, rfl, rfl, ⟨_, _, rfl, rfl, ⟨_, _, rfl, rfl, ⟨_, _, rfl, rfl, rfl⟩⟩⟩⟩⟩⟩⟩⟩⟩⟩⟩⟩⟩⟩ := h
  obtain rfl := k24_openM s1
  obtain rfl := k24_openM s4
  exact ⟨v13, rfl, g13⟩
theorem k26_mk (w : World) (x : S26) {A13 : Option Addr} {c13 : Nat} (l13 : x.f9.length ≤ c13) (g13 : k117.C w A13 x.f9.length x.f9) : k26.K w x [.int .i64 x.f0, .int .i64 x.f1.f0, .int .i64 x.f1.f1, .string x.f1.f2, .int .i64 x.f2.f0, .int .i64 x.f2.f1, .string x.f2.f2, .bool x.f3, .int .u8 x.f4, .string x.f5, .string x.f6, .string x.f7, .string x.f8, .slice A13 x.f9.length c13, .int .i64 x.f10, .bool x.f11, .bool x.f12, .string x.f13, .string x.f14] := ⟨[.int .i64 x.f0], [.int .i64 x.f1.f0, .int .i64 x.f1.f1, .string x.f1.f2, .int .i64 x.f2.f0, .int .i64 x.f2.f1, .string x.f2.f2, .bool x.f3, .int .u8 x.f4, .string x.f5, .string x.f6, .string x.f7, .string x.f8, .slice A13 x.f9.length c13, .int .i64 x.f10, .bool x.f11, .bool x.f12, .string x.f13, .string x.f14], rfl, rfl, ⟨[.int .i64 x.f1.f0, .int .i64 x.f1.f1, .string x.f1.f2], [.int .i64 x.f2.f0, .int .i64 x.f2.f1, .string x.f2.f2, .bool x.f3, .int .u8 x.f4, .string x.f5, .string x.f6, .string x.f7, .string x.f8, .slice A13 x.f9.length c13, .int .i64 x.f10, .bool x.f11, .bool x.f12, .string x.f13, .string x.f14], rfl, (k24_mk w x.f1 ), ⟨[.int .i64 x.f2.f0, .int .i64 x.f2.f1, .string x.f2.f2], [.bool x.f3, .int .u8 x.f4, .string x.f5, .string x.f6, .string x.f7, .string x.f8, .slice A13 x.f9.length c13, .int .i64 x.f10, .bool x.f11, .bool x.f12, .string x.f13, .string x.f14], rfl, (k24_mk w x.f2 ), ⟨[.bool x.f3], [.int .u8 x.f4, .string x.f5, .string x.f6, .string x.f7, .string x.f8, .slice A13 x.f9.length c13, .int .i64 x.f10, .bool x.f11, .bool x.f12, .string x.f13, .string x.f14], rfl, rfl, ⟨[.int .u8 x.f4], [.string x.f5, .string x.f6, .string x.f7, .string x.f8, .slice A13 x.f9.length c13, .int .i64 x.f10, .bool x.f11, .bool x.f12, .string x.f13, .string x.f14], rfl, rfl, ⟨[.string x.f5], [.string x.f6, .string x.f7, .string x.f8, .slice A13 x.f9.length c13, .int .i64 x.f10, .bool x.f11, .bool x.f12, .string x.f13, .string x.f14], rfl, rfl, ⟨[.string x.f6], [.string x.f7, .string x.f8, .slice A13 x.f9.length c13, .int .i64 x.f10, .bool x.f11, .bool x.f12, .string x.f13, .string x.f14], rfl, rfl, ⟨[.string x.f7], [.string x.f8, .slice A13 x.f9.length c13, .int .i64 x.f10, .bool x.f11, .bool x.f12, .string x.f13, .string x.f14], rfl, rfl, ⟨[.string x.f8], [.slice A13 x.f9.length c13, .int .i64 x.f10, .bool x.f11, .bool x.f12, .string x.f13, .string x.f14], rfl, rfl, ⟨[.slice A13 x.f9.length c13], [.int .i64 x.f10, .bool x.f11, .bool x.f12, .string x.f13, .string x.f14], rfl, ⟨A13, c13, rfl, l13, g13⟩, ⟨[.int .i64 x.f10], [.bool x.f11, .bool x.f12, .string x.f13, .string x.f14], rfl, rfl, ⟨[.bool x.f11], [.bool x.f12, .string x.f13, .string x.f14], rfl, rfl, ⟨[.bool x.f12], [.string x.f13, .string x.f14], rfl, rfl, ⟨[.string x.f13], [.string x.f14], rfl, rfl, rfl⟩⟩⟩⟩⟩⟩⟩⟩⟩⟩⟩⟩⟩⟩
theorem k26_mkM (w : World) (base : Nat) (ok : Nat → Prop) (x : S26) {v13 : Value} (g13 : k117.R 117 w base ok v13 x.f9) : k26.M w base ok x [.int .i64 x.f0, .int .i64 x.f1.f0, .int .i64 x.f1.f1, .string x.f1.f2, .int .i64 x.f2.f0, .int .i64 x.f2.f1, .string x.f2.f2, .bool x.f3, .int .u8 x.f4, .string x.f5, .string x.f6, .string x.f7, .string x.f8, v13, .int .i64 x.f10, .bool x.f11, .bool x.f12, .string x.f13, .string x.f14] := ⟨[.int .i64 x.f0], [.int .i64 x.f1.f0, .int .i64 x.f1.f1, .string x.f1.f2, .int .i64 x.f2.f0, .int .i64 x.f2.f1, .string x.f2.f2, .bool x.f3, .int .u8 x.f4, .string x.f5, .string x.f6, .string x.f7, .string x.f8, v13, .int .i64 x.f10, .bool x.f11, .bool x.f12, .string x.f13, .string x.f14], rfl, rfl, ⟨[.int .i64 x.f1.f0, .int .i64 x.f1.f1, .string x.f1.f2], [.int .i64 x.f2.f0, .int .i64 x.f2.f1, .string x.f2.f2, .bool x.f3, .int .u8 x.f4, .string x.f5, .string x.f6, .string x.f7, .string x.f8, v13, .int .i64 x.f10, .bool x.f11, .bool x.f12, .string x.f13, .string x.f14], rfl, (k24_mkM w base ok x.f1 ), ⟨[.int .i64 x.f2.f0, .int .i64 x.f2.f1, .string x.f2.f2], [.bool x.f3, .int .u8 x.f4, .string x.f5, .string x.f6, .string x.f7, .string x.f8, v13, .int .i64 x.f10, .bool x.f11, .bool x.f12, .string x.f13, .string x.f14], rfl, (k24_mkM w base ok x.f2 ), ⟨[.bool x.f3], [.int .u8 x.f4, .string x.f5, .string x.f6, .string x.f7, .string x.f8, v13, .int .i64 x.f10, .bool x.f11, .bool x.f12, .string x.f13, .string x.f14], rfl, rfl, ⟨[.int .u8 x.f4], [.string x.f5, .string x.f6, .string x.f7, .string x.f8, v13, .int .i64 x.f10, .bool x.f11, .bool x.f12, .string x.f13, .string x.f14], rfl, rfl, ⟨[.string x.f5], [.string x.f6, .string x.f7, .string x.f8, v13, .int .i64 x.f10, .bool x.f11, .bool x.f12, .string x.f13, .string x.f14], rfl, rfl, ⟨[.string x.f6], [.string x.f7, .string x.f8, v13, .int .i64 x.f10, .bool x.f11, .bool x.f12, .string x.f13, .string x.f14], rfl, rfl, ⟨[.string x.f7], [.string x.f8, v13, .int .i64 x.f10, .bool x.f11, .bool x.f12, .string x.f13, .string x.f14], rfl, rfl, ⟨[.string x.f8], [v13, .int .i64 x.f10, .bool x.f11, .bool x.f12, .string x.f13, .string x.f14], rfl, rfl, ⟨[v13], [.int .i64 x.f10, .bool x.f11, .bool x.f12, .string x.f13, .string x.f14], rfl, ⟨v13, rfl, g13⟩, ⟨[.int .i64 x.f10], [.bool x.f11, .bool x.f12, .string x.f13, .string x.f14], rfl, rfl, ⟨[.bool x.f11], [.bool x.f12, .string x.f13, .string x.f14], rfl, rfl, ⟨[.bool x.f12], [.string x.f13, .string x.f14], rfl, rfl, ⟨[.string x.f13], [.string x.f14], rfl, rfl, rfl⟩⟩⟩⟩⟩⟩⟩⟩⟩⟩⟩⟩⟩⟩
theorem k26_openF {W : World} {ok : Nat → Prop} {x : S26} {cs : List Value} (h : Kd.FK k26 W ok x cs) : ∃ A13 c13, cs = [.int .i64 x.f0, .int .i64 x.f1.f0, .int .i64 x.f1.f1, .string x.f1.f2, .int .i64 x.f2.f0, .int .i64 x.f2.f1, .string x.f2.f2, .bool x.f3, .int .u8 x.f4, .string x.f5, .string x.f6, .string x.f7, .string x.f8, .slice A13 x.f9.length c13, .int .i64 x.f10, .bool x.f11, .bool x.f12, .string x.f13, .string x.f14] ∧ x.f9.length ≤ c13 ∧ Kd.F k117 W ok A13 x.f9.length x.f9 := by
  obtain ⟨A13, c13, rfl, l13, _⟩ := k26_open (Kd.FK_now h)
  exact ⟨A13, c13, rfl, l13, (fun W' hW => by obtain ⟨A13_, c13_, he, l13_, g13_⟩ := k26_open (h W' hW); injection (Option.some.inj (show some (Value.slice A13 x.f9.length c13) = some (Value.slice A13_ x.f9.length c13_) from congrArg (fun l => l[13]?) he)) with ha_ _ _; rw [ha_]; exact g13_)⟩
theorem k26_mkF (W : World) (ok : Nat → Prop) (x : S26) {A13 : Option Addr} {c13 : Nat} (l13 : x.f9.length ≤ c13) (g13 : Kd.F k117 W ok A13 x.f9.length x.f9) : Kd.FK k26 W ok x [.int .i64 x.f0, .int .i64 x.f1.f0, .int .i64 x.f1.f1, .string x.f1.f2, .int .i64 x.f2.f0, .int .i64 x.f2.f1, .string x.f2.f2, .bool x.f3, .int .u8 x.f4, .string x.f5, .string x.f6, .string x.f7, .string x.f8, .slice A13 x.f9.length c13, .int .i64 x.f10, .bool x.f11, .bool x.f12, .string x.f13, .string x.f14] := fun W2 hW => k26_mk W2 x l13 (g13 W2 hW)
def rd_T26 (xs : List S26) (i : Int) : S26 := xs.getD i.toNat z26
theorem at_T26 {w : World} {A : Option Addr} {n : Nat} {xs : List S26} (h : Kd.C k26 w A n xs) (i : Int) (h0 : 0 ≤ i) (h1 : i < n) : ∃ ad A13 c13, A = some ad ∧ w.cell? (ad.add (i.toNat * 19)) = some (.int .i64 (rd_T26 xs i).f0) ∧ w.cell? ⟨(ad.add (i.toNat * 19)).block, (ad.add (i.toNat * 19)).off + 1, none⟩ = some (.int .i64 (rd_T26 xs i).f1.f0) ∧ w.cell? ⟨(ad.add (i.toNat * 19)).block, (ad.add (i.toNat * 19)).off + 2, none⟩ = some (.int .i64 (rd_T26 xs i).f1.f1) ∧ w.cell? ⟨(ad.add (i.toNat * 19)).block, (ad.add (i.toNat * 19)).off + 3, none⟩ = some (.string (rd_T26 xs i).f1.f2) ∧ w.cell? ⟨(ad.add (i.toNat * 19)).block, (ad.add (i.toNat * 19)).off + 4, none⟩ = some (.int .i64 (rd_T26 xs i).f2.f0) ∧ w.cell? ⟨(ad.add (i.toNat * 19)).block, (ad.add (i.toNat * 19)).off + 5, none⟩ = some (.int .i64 (rd_T26 xs i).f2.f1) ∧ w.cell? ⟨(ad.add (i.toNat * 19)).block, (ad.add (i.toNat * 19)).off + 6, none⟩ = some (.string (rd_T26 xs i).f2.f2) ∧ w.cell? ⟨(ad.add (i.toNat * 19)).block, (ad.add (i.toNat * 19)).off + 7, none⟩ = some (.bool (rd_T26 xs i).f3) ∧ w.cell? ⟨(ad.add (i.toNat * 19)).block, (ad.add (i.toNat * 19)).off + 8, none⟩ = some (.int .u8 (rd_T26 xs i).f4) ∧ w.cell? ⟨(ad.add (i.toNat * 19)).block, (ad.add (i.toNat * 19)).off + 9, none⟩ = some (.string (rd_T26 xs i).f5) ∧ w.cell? ⟨(ad.add (i.toNat * 19)).block, (ad.add (i.toNat * 19)).off + 10, none⟩ = some (.string (rd_T26 xs i).f6) ∧ w.cell? ⟨(ad.add (i.toNat * 19)).block, (ad.add (i.toNat * 19)).off + 11, none⟩ = some (.string (rd_T26 xs i).f7) ∧ w.cell? ⟨(ad.add (i.toNat * 19)).block, (ad.add (i.toNat * 19)).off + 12, none⟩ = some (.string (rd_T26 xs i).f8) ∧ w.cell? ⟨(ad.add (i.toNat * 19)).block, (ad.add (i.toNat * 19)).off + 13, none⟩ = some (.slice A13 (rd_T26 xs i).f9.length c13) ∧ w.cell? ⟨(ad.add (i.toNat * 19)).block, (ad.add (i.toNat * 19)).off + 14, none⟩ = some (.int .i64 (rd_T26 xs i).f10) ∧ w.cell? ⟨(ad.add (i.toNat * 19)).block, (ad.add (i.toNat * 19)).off + 15, none⟩ = some (.bool (rd_T26 xs i).f11) ∧ w.cell? ⟨(ad.add (i.toNat * 19)).block, (ad.add (i.toNat * 19)).off + 16, none⟩ = some (.bool (rd_T26 xs i).f12) ∧ w.cell? ⟨(ad.add (i.toNat * 19)).block, (ad.add (i.toNat * 19)).off + 17, none⟩ = some (.string (rd_T26 xs i).f13) ∧ w.cell? ⟨(ad.add (i.toNat * 19)).block, (ad.add (i.toNat * 19)).off + 18, none⟩ = some (.string (rd_T26 xs i).f14) ∧ (rd_T26 xs i).f9.length ≤ c13 ∧ k117.C w A13 (rd_T26 xs i).f9.length (rd_T26 xs i).f9 := by
  obtain ⟨ad, c, e, _, hK, hc0⟩ := Kd.C_get h z26 i h0 h1
  have hc : ∀ j u, c[j]? = some u → w.cell? (ad.add (i.toNat * 19 + j)) = some u := hc0
  obtain ⟨A13, c13, rfl, l13, g13⟩ := k26_open hK
  exact ⟨ad, A13, c13, e, hc 0 _ rfl, by rw [← add_field _ _ 1 (by omega)]; exact hc 1 _ rfl, by rw [← add_field _ _ 2 (by omega)]; exact hc 2 _ rfl, by rw [← add_field _ _ 3 (by omega)]; exact hc 3 _ rfl, by rw [← add_field _ _ 4 (by omega)]; exact hc 4 _ rfl, by rw [← add_field _ _ 5 (by omega)]; exact hc 5 _ rfl, by rw [← add_field _ _ 6 (by omega)]; exact hc 6 _ rfl, by rw [← add_field _ _ 7 (by omega)]; exact hc 7 _ rfl, by rw [← add_field _ _ 8 (by omega)]; exact hc 8 _ rfl, by rw [← add_field _ _ 9 (by omega)]; exact hc 9 _ rfl, by rw [← add_field _ _ 10 (by omega)]; exact hc 10 _ rfl, by rw [← add_field _ _ 11 (by omega)]; exact hc 11 _ rfl, by rw [← add_field _ _ 12 (by omega)]; exact hc 12 _ rfl, by rw [← add_field _ _ 13 (by omega)]; exact hc 13 _ rfl, by rw [← add_field _ _ 14 (by omega)]; exact hc 14 _ rfl, by rw [← add_field _ _ 15 (by omega)]; exact hc 15 _ rfl, by rw [← add_field _ _ 16 (by omega)]; exact hc 16 _ rfl, by rw [← add_field _ _ 17 (by omega)]; exact hc 17 _ rfl, by rw [← add_field _ _ 18 (by omega)]; exact hc 18 _ rfl, l13, g13⟩

/-! #### struct type 29 -/
structure S29 where
  f0 : Int
  f1 : Int
def z29 : S29 := ⟨(0 : Int), (0 : Int)⟩
def k29 : Kd S29 := Kd.iso (Kd.pair (Kd.int .i64) (Kd.int .i64)) (fun x : S29 => (x.f0, x.f1))
theorem k29_heap : Kd.Heap k29 := Kd.heap_iso _ (Kd.heap_pair (Kd.heap_int .i64) (Kd.heap_int .i64))
theorem k29_open {w : World} {x : S29} {cs : List Value} (h : k29.K w x cs) : cs = [.int .i64 x.f0, .int .i64 x.f1] := by
  obtain ⟨_, _, rfl, rfl, rfl⟩ := h
  exact rfl
theorem k29_openM {w : World} {base : Nat} {ok : Nat → Prop} {x : S29} {cs : List Value} (h : k29.M w base ok x cs) : cs = [.int .i64 x.f0, .int .i64 x.f1] := by
  obtain ⟨_, _, rfl, rfl, rfl⟩ := h
  exact rfl
theorem k29_mk (w : World) (x : S29)  : k29.K w x [.int .i64 x.f0, .int .i64 x.f1] := ⟨[.int .i64 x.f0], [.int .i64 x.f1], rfl, rfl, rfl⟩
theorem k29_mkM (w : World) (base : Nat) (ok : Nat → Prop) (x : S29)  : k29.M w base ok x [.int .i64 x.f0, .int .i64 x.f1] := ⟨[.int .i64 x.f0], [.int .i64 x.f1], rfl, rfl, rfl⟩
theorem k29_mkF (W : World) (ok : Nat → Prop) (x : S29) : Kd.FK k29 W ok x [.int .i64 x.f0, .int .i64 x.f1] := fun W2 _ => k29_mk W2 x
def rd_T29 (xs : List S29) (i : Int) : S29 := xs.getD i.toNat z29
theorem at_T29 {w : World} {A : Option Addr} {n : Nat} {xs : List S29} (h : Kd.C k29 w A n xs) (i : Int) (h0 : 0 ≤ i) (h1 : i < n) : ∃ ad , A = some ad ∧ w.cell? (ad.add (i.toNat * 2)) = some (.int .i64 (rd_T29 xs i).f0) ∧ w.cell? ⟨(ad.add (i.toNat * 2)).block, (ad.add (i.toNat * 2)).off + 1, none⟩ = some (.int .i64 (rd_T29 xs i).f1) := by
  obtain ⟨ad, c, e, _, hK, hc0⟩ := Kd.C_get h z29 i h0 h1
  have hc : ∀ j u, c[j]? = some u → w.cell? (ad.add (i.toNat * 2 + j)) = some u := hc0
  obtain rfl := k29_open hK
  exact ⟨ad, e, hc 0 _ rfl, by rw [← add_field _ _ 1 (by omega)]; exact hc 1 _ rfl⟩

/-! #### struct type 30 -/
structure S30 where
  f0 : Int
  f1 : Int
def z30 : S30 := ⟨(0 : Int), (0 : Int)⟩
def k30 : Kd S30 := Kd.iso (Kd.pair (Kd.int .i64) (Kd.int .i64)) (fun x : S30 => (x.f0, x.f1))
theorem k30_heap : Kd.Heap k30 := Kd.heap_iso _ (Kd.heap_pair (Kd.heap_int .i64) (Kd.heap_int .i64))
theorem k30_open {w : World} {x : S30} {cs : List Value} (h : k30.K w x cs) : cs = [.int .i64 x.f0, .int .i64 x.f1] := by
  obtain ⟨_, _, rfl, rfl, rfl⟩ := h
  exact rfl
theorem k30_openM {w : World} {base : Nat} {ok : Nat → Prop} {x : S30} {cs : List Value} (h : k30.M w base ok x cs) : cs = [.int .i64 x.f0, .int .i64 x.f1] := by
  obtain ⟨_, _, rfl, rfl, rfl⟩ := h
  exact rfl
theorem k30_mk (w : World) (x : S30)  : k30.K w x [.int .i64 x.f0, .int .i64 x.f1] := ⟨[.int .i64 x.f0], [.int .i64 x.f1], rfl, rfl, rfl⟩
theorem k30_mkM (w : World) (base : Nat) (ok : Nat → Prop) (x : S30)  : k30.M w base ok x [.int .i64 x.f0, .int .i64 x.f1] := ⟨[.int .i64 x.f0], [.int .i64 x.f1], rfl, rfl, rfl⟩
theorem k30_mkF (W : World) (ok : Nat → Prop) (x : S30) : Kd.FK k30 W ok x [.int .i64 x.f0, .int .i64 x.f1] := fun W2 _ => k30_mk W2 x
def rd_T30 (xs : List S30) (i : Int) : S30 := xs.getD i.toNat z30
theorem at_T30 {w : World} {A : Option Addr} {n : Nat} {xs : List S30} (h : Kd.C k30 w A n xs) (i : Int) (h0 : 0 ≤ i) (h1 : i < n) : ∃ ad , A = some ad ∧ w.cell? (ad.add (i.toNat * 2)) = some (.int .i64 (rd_T30 xs i).f0) ∧ w.cell? ⟨(ad.add (i.toNat * 2)).block, (ad.add (i.toNat * 2)).off + 1, none⟩ = some (.int .i64 (rd_T30 xs i).f1) := by
  obtain ⟨ad, c, e, _, hK, hc0⟩ := Kd.C_get h z30 i h0 h1
  have hc : ∀ j u, c[j]? = some u → w.cell? (ad.add (i.toNat * 2 + j)) = some u := hc0
  obtain rfl := k30_open hK
  exact ⟨ad, e, hc 0 _ rfl, by rw [← add_field _ _ 1 (by omega)]; exact hc 1 _ rfl⟩

def rd_L18 (xs : List (List ByteArray)) (i : Int) : (List ByteArray) := xs.getD i.toNat ([] : List ByteArray)
theorem at_L18 {w : World} {A : Option Addr} {n : Nat} {xs : List (List ByteArray)} (h : Kd.C (Kd.slice 9 Kd.string) w A n xs) (i : Int) (h0 : 0 ≤ i) (h1 : i < n) : ∃ ad A0 c0, A = some ad ∧ w.cell? (ad.add i.toNat) = some (.slice A0 (rd_L18 xs i).length c0) ∧ (rd_L18 xs i).length ≤ c0 ∧ Kd.string.C w A0 (rd_L18 xs i).length (rd_L18 xs i) := by
  obtain ⟨ad, c, e, _, hK, hc0⟩ := Kd.C_get h ([] : List ByteArray) i h0 h1
  have hc : ∀ j u, c[j]? = some u → w.cell? (ad.add (i.toNat * 1 + j)) = some u := hc0
  obtain ⟨A0, c0, rfl, l0, g0⟩ := hK
  exact ⟨ad, A0, c0, e, by have hq := hc 0 _ rfl; rwa [Nat.mul_one, Nat.add_zero] at hq, l0, g0⟩

def rd_L19 (xs : List (List Int)) (i : Int) : (List Int) := xs.getD i.toNat ([] : List Int)
theorem at_L19 {w : World} {A : Option Addr} {n : Nat} {xs : List (List Int)} (h : Kd.C (Kd.slice 5 (Kd.int .u8)) w A n xs) (i : Int) (h0 : 0 ≤ i) (h1 : i < n) : ∃ ad A0 c0, A = some ad ∧ w.cell? (ad.add i.toNat) = some (.slice A0 (rd_L19 xs i).length c0) ∧ (rd_L19 xs i).length ≤ c0 ∧ (Kd.int .u8).C w A0 (rd_L19 xs i).length (rd_L19 xs i) := by
  obtain ⟨ad, c, e, _, hK, hc0⟩ := Kd.C_get h ([] : List Int) i h0 h1
  have hc : ∀ j u, c[j]? = some u → w.cell? (ad.add (i.toNat * 1 + j)) = some u := hc0
  obtain ⟨A0, c0, rfl, l0, g0⟩ := hK
  exact ⟨ad, A0, c0, e, by have hq := hc 0 _ rfl; rwa [Nat.mul_one, Nat.add_zero] at hq, l0, g0⟩

def rd_L20 (xs : List (List Bool)) (i : Int) : (List Bool) := xs.getD i.toNat ([] : List Bool)
theorem at_L20 {w : World} {A : Option Addr} {n : Nat} {xs : List (List Bool)} (h : Kd.C (Kd.slice 4 Kd.bool) w A n xs) (i : Int) (h0 : 0 ≤ i) (h1 : i < n) : ∃ ad A0 c0, A = some ad ∧ w.cell? (ad.add i.toNat) = some (.slice A0 (rd_L20 xs i).length c0) ∧ (rd_L20 xs i).length ≤ c0 ∧ Kd.bool.C w A0 (rd_L20 xs i).length (rd_L20 xs i) := by
  obtain ⟨ad, c, e, _, hK, hc0⟩ := Kd.C_get h ([] : List Bool) i h0 h1
  have hc : ∀ j u, c[j]? = some u → w.cell? (ad.add (i.toNat * 1 + j)) = some u := hc0
  obtain ⟨A0, c0, rfl, l0, g0⟩ := hK
  exact ⟨ad, A0, c0, e, by have hq := hc 0 _ rfl; rwa [Nat.mul_one, Nat.add_zero] at hq, l0, g0⟩

/-! #### struct type 55 -/
structure S55 where
  f0 : Int
  f1 : Int
def z55 : S55 := ⟨(0 : Int), (0 : Int)⟩
def k55 : Kd S55 := Kd.iso (Kd.pair (Kd.int .i64) (Kd.int .i64)) (fun x : S55 => (x.f0, x.f1))
theorem k55_heap : Kd.Heap k55 := Kd.heap_iso _ (Kd.heap_pair (Kd.heap_int .i64) (Kd.heap_int .i64))
theorem k55_open {w : World} {x : S55} {cs : List Value} (h : k55.K w x cs) : cs = [.int .i64 x.f0, .int .i64 x.f1] := by
  obtain ⟨_, _, rfl, rfl, rfl⟩ := h
  exact rfl
theorem k55_openM {w : World} {base : Nat} {ok : Nat → Prop} {x : S55} {cs : List Value} (h : k55.M w base ok x cs) : cs = [.int .i64 x.f0, .int .i64 x.f1] := by
  obtain ⟨_, _, rfl, rfl, rfl⟩ := h
  exact rfl
theorem k55_mk (w : World) (x : S55)  : k55.K w x [.int .i64 x.f0, .int .i64 x.f1] := ⟨[.int .i64 x.f0], [.int .i64 x.f1], rfl, rfl, rfl⟩
theorem k55_mkM (w : World) (base : Nat) (ok : Nat → Prop) (x : S55)  : k55.M w base ok x [.int .i64 x.f0, .int .i64 x.f1] := ⟨[.int .i64 x.f0], [.int .i64 x.f1], rfl, rfl, rfl⟩
theorem k55_mkF (W : World) (ok : Nat → Prop) (x : S55) : Kd.FK k55 W ok x [.int .i64 x.f0, .int .i64 x.f1] := fun W2 _ => k55_mk W2 x
def rd_T55 (xs : List S55) (i : Int) : S55 := xs.getD i.toNat z55
theorem at_T55 {w : World} {A : Option Addr} {n : Nat} {xs : List S55} (h : Kd.C k55 w A n xs) (i : Int) (h0 : 0 ≤ i) (h1 : i < n) : ∃ ad , A = some ad ∧ w.cell? (ad.add (i.toNat * 2)) = some (.int .i64 (rd_T55 xs i).f0) ∧ w.cell? ⟨(ad.add (i.toNat * 2)).block, (ad.add (i.toNat * 2)).off + 1, none⟩ = some (.int .i64 (rd_T55 xs i).f1) := by
  obtain ⟨ad, c, e, _, hK, hc0⟩ := Kd.C_get h z55 i h0 h1
  have hc : ∀ j u, c[j]? = some u → w.cell? (ad.add (i.toNat * 2 + j)) = some u := hc0
  obtain rfl := k55_open hK
  exact ⟨ad, e, hc 0 _ rfl, by rw [← add_field _ _ 1 (by omega)]; exact hc 1 _ rfl⟩

def rd_L22 (xs : List (List S55)) (i : Int) : (List S55) := xs.getD i.toNat ([] : List S55)
theorem at_L22 {w : World} {A : Option Addr} {n : Nat} {xs : List (List S55)} (h : Kd.C (Kd.slice 55 k55) w A n xs) (i : Int) (h0 : 0 ≤ i) (h1 : i < n) : ∃ ad A0 c0, A = some ad ∧ w.cell? (ad.add i.toNat) = some (.slice A0 (rd_L22 xs i).length c0) ∧ (rd_L22 xs i).length ≤ c0 ∧ k55.C w A0 (rd_L22 xs i).length (rd_L22 xs i) := by
  obtain ⟨ad, c, e, _, hK, hc0⟩ := Kd.C_get h ([] : List S55) i h0 h1
  have hc : ∀ j u, c[j]? = some u → w.cell? (ad.add (i.toNat * 1 + j)) = some u := hc0
  obtain ⟨A0, c0, rfl, l0, g0⟩ := hK
  exact ⟨ad, A0, c0, e, by have hq := hc 0 _ rfl; rwa [Nat.mul_one, Nat.add_zero] at hq, l0, g0⟩

/-! #### struct type 54 -/
structure S54 where
  f0 : Int
  f1 : Int
def z54 : S54 := ⟨(0 : Int), (0 : Int)⟩
def k54 : Kd S54 := Kd.iso (Kd.pair (Kd.int .i64) (Kd.int .i64)) (fun x : S54 => (x.f0, x.f1))
theorem k54_heap : Kd.Heap k54 := Kd.heap_iso _ (Kd.heap_pair (Kd.heap_int .i64) (Kd.heap_int .i64))
theorem k54_open {w : World} {x : S54} {cs : List Value} (h : k54.K w x cs) : cs = [.int .i64 x.f0, .int .i64 x.f1] := by
  obtain ⟨_, _, rfl, rfl, rfl⟩ := h
  exact rfl
theorem k54_openM {w : World} {base : Nat} {ok : Nat → Prop} {x : S54} {cs : List Value} (h : k54.M w base ok x cs) : cs = [.int .i64 x.f0, .int .i64 x.f1] := by
  obtain ⟨_, _, rfl, rfl, rfl⟩ := h
  exact rfl
theorem k54_mk (w : World) (x : S54)  : k54.K w x [.int .i64 x.f0, .int .i64 x.f1] := ⟨[.int .i64 x.f0], [.int .i64 x.f1], rfl, rfl, rfl⟩
theorem k54_mkM (w : World) (base : Nat) (ok : Nat → Prop) (x : S54)  : k54.M w base ok x [.int .i64 x.f0, .int .i64 x.f1] := ⟨[.int .i64 x.f0], [.int .i64 x.f1], rfl, rfl, rfl⟩
theorem k54_mkF (W : World) (ok : Nat → Prop) (x : S54) : Kd.FK k54 W ok x [.int .i64 x.f0, .int .i64 x.f1] := fun W2 _ => k54_mk W2 x
def rd_T54 (xs : List S54) (i : Int) : S54 := xs.getD i.toNat z54
theorem at_T54 {w : World} {A : Option Addr} {n : Nat} {xs : List S54} (h : Kd.C k54 w A n xs) (i : Int) (h0 : 0 ≤ i) (h1 : i < n) : ∃ ad , A = some ad ∧ w.cell? (ad.add (i.toNat * 2)) = some (.int .i64 (rd_T54 xs i).f0) ∧ w.cell? ⟨(ad.add (i.toNat * 2)).block, (ad.add (i.toNat * 2)).off + 1, none⟩ = some (.int .i64 (rd_T54 xs i).f1) := by
  obtain ⟨ad, c, e, _, hK, hc0⟩ := Kd.C_get h z54 i h0 h1
  have hc : ∀ j u, c[j]? = some u → w.cell? (ad.add (i.toNat * 2 + j)) = some u := hc0
  obtain rfl := k54_open hK
  exact ⟨ad, e, hc 0 _ rfl, by rw [← add_field _ _ 1 (by omega)]; exact hc 1 _ rfl⟩

/-! #### struct type 76 -/
structure S76 where
  f0 : Int
  f1 : ByteArray
  f2 : ByteArray
  f3 : Int
def z76 : S76 := ⟨(0 : Int), (⟨#[]⟩ : ByteArray), (⟨#[]⟩ : ByteArray), (0 : Int)⟩
def k76 : Kd S76 := Kd.iso (Kd.pair (Kd.int .i64) (Kd.pair Kd.string (Kd.pair Kd.string (Kd.int .u8)))) (fun x : S76 => (x.f0, x.f1, x.f2, x.f3))
theorem k76_heap : Kd.Heap k76 := Kd.heap_iso _ (Kd.heap_pair (Kd.heap_int .i64) (Kd.heap_pair Kd.heap_string (Kd.heap_pair Kd.heap_string (Kd.heap_int .u8))))
theorem k76_open {w : World} {x : S76} {cs : List Value} (h : k76.K w x cs) : cs = [.int .i64 x.f0, .string x.f1, .string x.f2, .int .u8 x.f3] := by
  obtain ⟨_, _, rfl, rfl, ⟨_, _, rfl, rfl, ⟨_, _, rfl, rfl, rfl⟩⟩⟩ := h
  exact rfl
theorem k76_openM {w : World} {base : Nat} {ok : Nat → Prop} {x : S76} {cs : List Value} (h : k76.M w base ok x cs) : cs = [.int .i64 x.f0, .string x.f1, .string x.f2, .int .u8 x.f3] := by
  obtain ⟨_, _, rfl, rfl, ⟨_, _, rfl, rfl, ⟨_, _, rfl, rfl, rfl⟩⟩⟩ := h
  exact rfl
theorem k76_mk (w : World) (x : S76)  : k76.K w x [.int .i64 x.f0, .string x.f1, .string x.f2, .int .u8 x.f3] := ⟨[.int .i64 x.f0], [.string x.f1, .string x.f2, .int .u8 x.f3], rfl, rfl, ⟨[.string x.f1], [.string x.f2, .int .u8 x.f3], rfl, rfl, ⟨[.string x.f2], [.int .u8 x.f3], rfl, rfl, rfl⟩⟩⟩
theorem k76_mkM (w : World) (base : Nat) (ok : Nat → Prop) (x : S76)  : k76.M w base ok x [.int .i64 x.f0, .string x.f1, .string x.f2, .int .u8 x.f3] := ⟨[.int .i64 x.f0], [.string x.f1, .string x.f2, .int .u8 x.f3], rfl, rfl, ⟨[.string x.f1], [.string x.f2, .int .u8 x.f3], rfl, rfl, ⟨[.string x.f2], [.int .u8 x.f3], rfl, rfl, rfl⟩⟩⟩
theorem k76_mkF (W : World) (ok : Nat → Prop) (x : S76) : Kd.FK k76 W ok x [.int .i64 x.f0, .string x.f1, .string x.f2, .int .u8 x.f3] := fun W2 _ => k76_mk W2 x
def rd_T76 (xs : List S76) (i : Int) : S76 := xs.getD i.toNat z76
theorem at_T76 {w : World} {A : Option Addr} {n : Nat} {xs : List S76} (h : Kd.C k76 w A n xs) (i : Int) (h0 : 0 ≤ i) (h1 : i < n) : ∃ ad , A = some ad ∧ w.cell? (ad.add (i.toNat * 4)) = some (.int .i64 (rd_T76 xs i).f0) ∧ w.cell? ⟨(ad.add (i.toNat * 4)).block, (ad.add (i.toNat * 4)).off + 1, none⟩ = some (.string (rd_T76 xs i).f1) ∧ w.cell? ⟨(ad.add (i.toNat * 4)).block, (ad.add (i.toNat * 4)).off + 2, none⟩ = some (.string (rd_T76 xs i).f2) ∧ w.cell? ⟨(ad.add (i.toNat * 4)).block, (ad.add (i.toNat * 4)).off + 3, none⟩ = some (.int .u8 (rd_T76 xs i).f3) := by
  obtain ⟨ad, c, e, _, hK, hc0⟩ := Kd.C_get h z76 i h0 h1
  have hc : ∀ j u, c[j]? = some u → w.cell? (ad.add (i.toNat * 4 + j)) = some u := hc0
  obtain rfl := k76_open hK
  exact ⟨ad, e, hc 0 _ rfl, by rw [← add_field _ _ 1 (by omega)]; exact hc 1 _ rfl, by rw [← add_field _ _ 2 (by omega)]; exact hc 2 _ rfl, by rw [← add_field _ _ 3 (by omega)]; exact hc 3 _ rfl⟩

def rd_L25 (xs : List (List S76)) (i : Int) : (List S76) := xs.getD i.toNat ([] : List S76)
theorem at_L25 {w : World} {A : Option Addr} {n : Nat} {xs : List (List S76)} (h : Kd.C (Kd.slice 76 k76) w A n xs) (i : Int) (h0 : 0 ≤ i) (h1 : i < n) : ∃ ad A0 c0, A = some ad ∧ w.cell? (ad.add i.toNat) = some (.slice A0 (rd_L25 xs i).length c0) ∧ (rd_L25 xs i).length ≤ c0 ∧ k76.C w A0 (rd_L25 xs i).length (rd_L25 xs i) := by
  obtain ⟨ad, c, e, _, hK, hc0⟩ := Kd.C_get h ([] : List S76) i h0 h1
  have hc : ∀ j u, c[j]? = some u → w.cell? (ad.add (i.toNat * 1 + j)) = some u := hc0
  obtain ⟨A0, c0, rfl, l0, g0⟩ := hK
  exact ⟨ad, A0, c0, e, by have hq := hc 0 _ rfl; rwa [Nat.mul_one, Nat.add_zero] at hq, l0, g0⟩

/-! #### struct type 75 -/
structure S75 where
  f0 : Int
  f1 : ByteArray
  f2 : ByteArray
  f3 : Int
def z75 : S75 := ⟨(0 : Int), (⟨#[]⟩ : ByteArray), (⟨#[]⟩ : ByteArray), (0 : Int)⟩
def k75 : Kd S75 := Kd.iso (Kd.pair (Kd.int .i64) (Kd.pair Kd.string (Kd.pair Kd.string (Kd.int .u8)))) (fun x : S75 => (x.f0, x.f1, x.f2, x.f3))
theorem k75_heap : Kd.Heap k75 := Kd.heap_iso _ (Kd.heap_pair (Kd.heap_int .i64) (Kd.heap_pair Kd.heap_string (Kd.heap_pair Kd.heap_string (Kd.heap_int .u8))))
theorem k75_open {w : World} {x : S75} {cs : List Value} (h : k75.K w x cs) : cs = [.int .i64 x.f0, .string x.f1, .string x.f2, .int .u8 x.f3] := by
  obtain ⟨_, _, rfl, rfl, ⟨_, _, rfl, rfl, ⟨_, _, rfl, rfl, rfl⟩⟩⟩ := h
  exact rfl
theorem k75_openM {w : World} {base : Nat} {ok : Nat → Prop} {x : S75} {cs : List Value} (h : k75.M w base ok x cs) : cs = [.int .i64 x.f0, .string x.f1, .string x.f2, .int .u8 x.f3] := by
  obtain ⟨_, _, rfl, rfl, ⟨_, _, rfl, rfl, ⟨_, _, rfl, rfl, rfl⟩⟩⟩ := h
  exact rfl
theorem k75_mk (w : World) (x : S75)  : k75.K w x [.int .i64 x.f0, .string x.f1, .string x.f2, .int .u8 x.f3] := ⟨[.int .i64 x.f0], [.string x.f1, .string x.f2, .int .u8 x.f3], rfl, rfl, ⟨[.string x.f1], [.string x.f2, .int .u8 x.f3], rfl, rfl, ⟨[.string x.f2], [.int .u8 x.f3], rfl, rfl, rfl⟩⟩⟩
theorem k75_mkM (w : World) (base : Nat) (ok : Nat → Prop) (x : S75)  : k75.M w base ok x [.int .i64 x.f0, .string x.f1, .string x.f2, .int .u8 x.f3] := ⟨[.int .i64 x.f0], [.string x.f1, .string x.f2, .int .u8 x.f3], rfl, rfl, ⟨[.string x.f1], [.string x.f2, .int .u8 x.f3], rfl, rfl, ⟨[.string x.f2], [.int .u8 x.f3], rfl, rfl, rfl⟩⟩⟩
theorem k75_mkF (W : World) (ok : Nat → Prop) (x : S75) : Kd.FK k75 W ok x [.int .i64 x.f0, .string x.f1, .string x.f2, .int .u8 x.f3] := fun W2 _ => k75_mk W2 x
def rd_T75 (xs : List S75) (i : Int) : S75 := xs.getD i.toNat z75
theorem at_T75 {w : World} {A : Option Addr} {n : Nat} {xs : List S75} (h : Kd.C k75 w A n xs) (i : Int) (h0 : 0 ≤ i) (h1 : i < n) : ∃ ad , A = some ad ∧ w.cell? (ad.add (i.toNat * 4)) = some (.int .i64 (rd_T75 xs i).f0) ∧ w.cell? ⟨(ad.add (i.toNat * 4)).block, (ad.add (i.toNat * 4)).off + 1, none⟩ = some (.string (rd_T75 xs i).f1) ∧ w.cell? ⟨(ad.add (i.toNat * 4)).block, (ad.add (i.toNat * 4)).off + 2, none⟩ = some (.string (rd_T75 xs i).f2) ∧ w.cell? ⟨(ad.add (i.toNat * 4)).block, (ad.add (i.toNat * 4)).off + 3, none⟩ = some (.int .u8 (rd_T75 xs i).f3) := by
  obtain ⟨ad, c, e, _, hK, hc0⟩ := Kd.C_get h z75 i h0 h1
  have hc : ∀ j u, c[j]? = some u → w.cell? (ad.add (i.toNat * 4 + j)) = some u := hc0
  obtain rfl := k75_open hK
  exact ⟨ad, e, hc 0 _ rfl, by rw [← add_field _ _ 1 (by omega)]; exact hc 1 _ rfl, by rw [← add_field _ _ 2 (by omega)]; exact hc 2 _ rfl, by rw [← add_field _ _ 3 (by omega)]; exact hc 3 _ rfl⟩

/-! #### struct type 98 -/
structure S98 where
  f0 : ByteArray
  f1 : ByteArray
def z98 : S98 := ⟨(⟨#[]⟩ : ByteArray), (⟨#[]⟩ : ByteArray)⟩
def k98 : Kd S98 := Kd.iso (Kd.pair Kd.string Kd.string) (fun x : S98 => (x.f0, x.f1))
theorem k98_heap : Kd.Heap k98 := Kd.heap_iso _ (Kd.heap_pair Kd.heap_string Kd.heap_string)
theorem k98_open {w : World} {x : S98} {cs : List Value} (h : k98.K w x cs) : cs = [.string x.f0, .string x.f1] := by
  obtain ⟨_, _, rfl, rfl, rfl⟩ := h
  exact rfl
theorem k98_openM {w : World} {base : Nat} {ok : Nat → Prop} {x : S98} {cs : List Value} (h : k98.M w base ok x cs) : cs = [.string x.f0, .string x.f1] := by
  obtain ⟨_, _, rfl, rfl, rfl⟩ := h
  exact rfl
theorem k98_mk (w : World) (x : S98)  : k98.K w x [.string x.f0, .string x.f1] := ⟨[.string x.f0], [.string x.f1], rfl, rfl, rfl⟩
theorem k98_mkM (w : World) (base : Nat) (ok : Nat → Prop) (x : S98)  : k98.M w base ok x [.string x.f0, .string x.f1] := ⟨[.string x.f0], [.string x.f1], rfl, rfl, rfl⟩
theorem k98_mkF (W : World) (ok : Nat → Prop) (x : S98) : Kd.FK k98 W ok x [.string x.f0, .string x.f1] := fun W2 _ => k98_mk W2 x
def rd_T98 (xs : List S98) (i : Int) : S98 := xs.getD i.toNat z98
theorem at_T98 {w : World} {A : Option Addr} {n : Nat} {xs : List S98} (h : Kd.C k98 w A n xs) (i : Int) (h0 : 0 ≤ i) (h1 : i < n) : ∃ ad , A = some ad ∧ w.cell? (ad.add (i.toNat * 2)) = some (.string (rd_T98 xs i).f0) ∧ w.cell? ⟨(ad.add (i.toNat * 2)).block, (ad.add (i.toNat * 2)).off + 1, none⟩ = some (.string (rd_T98 xs i).f1) := by
  obtain ⟨ad, c, e, _, hK, hc0⟩ := Kd.C_get h z98 i h0 h1
  have hc : ∀ j u, c[j]? = some u → w.cell? (ad.add (i.toNat * 2 + j)) = some u := hc0
  obtain rfl := k98_open hK
  exact ⟨ad, e, hc 0 _ rfl, by rw [← add_field _ _ 1 (by omega)]; exact hc 1 _ rfl⟩

def rd_L28 (xs : List (List S98)) (i : Int) : (List S98) := xs.getD i.toNat ([] : List S98)
theorem at_L28 {w : World} {A : Option Addr} {n : Nat} {xs : List (List S98)} (h : Kd.C (Kd.slice 98 k98) w A n xs) (i : Int) (h0 : 0 ≤ i) (h1 : i < n) : ∃ ad A0 c0, A = some ad ∧ w.cell? (ad.add i.toNat) = some (.slice A0 (rd_L28 xs i).length c0) ∧ (rd_L28 xs i).length ≤ c0 ∧ k98.C w A0 (rd_L28 xs i).length (rd_L28 xs i) := by
  obtain ⟨ad, c, e, _, hK, hc0⟩ := Kd.C_get h ([] : List S98) i h0 h1
  have hc : ∀ j u, c[j]? = some u → w.cell? (ad.add (i.toNat * 1 + j)) = some u := hc0
  obtain ⟨A0, c0, rfl, l0, g0⟩ := hK
  exact ⟨ad, A0, c0, e, by have hq := hc 0 _ rfl; rwa [Nat.mul_one, Nat.add_zero] at hq, l0, g0⟩

/-! #### struct type 90 -/
structure S90 where
  f0 : (List S98)
  f1 : (List Bool)
  f2 : ByteArray
  f3 : Int
def z90 : S90 := ⟨([] : List S98), ([] : List Bool), (⟨#[]⟩ : ByteArray), (0 : Int)⟩
def k90 : Kd S90 := Kd.iso (Kd.pair (Kd.slice 98 k98) (Kd.pair (Kd.slice 4 Kd.bool) (Kd.pair Kd.string (Kd.int .i64)))) (fun x : S90 => (x.f0, x.f1, x.f2, x.f3))
theorem k90_heap : Kd.Heap k90 := Kd.heap_iso _ (Kd.heap_pair (Kd.heap_slice 98 k98_heap) (Kd.heap_pair (Kd.heap_slice 4 Kd.heap_bool) (Kd.heap_pair Kd.heap_string (Kd.heap_int .i64))))
theorem k90_open {w : World} {x : S90} {cs : List Value} (h : k90.K w x cs) : ∃ A0 c0 A1 c1, cs = [.slice A0 x.f0.length c0, .slice A1 x.f1.length c1, .string x.f2, .int .i64 x.f3] ∧ x.f0.length ≤ c0 ∧ k98.C w A0 x.f0.length x.f0 ∧ x.f1.length ≤ c1 ∧ Kd.bool.C w A1 x.f1.length x.f1 := by
  obtain ⟨_, _, rfl, ⟨A0, c0, rfl, l0, g0⟩, ⟨_, _, rfl, ⟨A1, c1, rfl, l1, g1⟩, ⟨_, _, rfl, rfl, rfl⟩⟩⟩ := h
  exact ⟨A0, c0, A1, c1, rfl, l0, g0, l1, g1⟩
theorem k90_openM {w : World} {base : Nat} {ok : Nat → Prop} {x : S90} {cs : List Value} (h : k90.M w base ok x cs) : ∃ v0 v1, cs = [v0, v1, .string x.f2, .int .i64 x.f3] ∧ k98.R 98 w base ok v0 x.f0 ∧ Kd.bool.R 4 w base ok v1 x.f1 := by
  obtain ⟨_, _, rfl, ⟨v0, rfl, g0⟩, ⟨_, _, rfl, ⟨v1, rfl, g1⟩, ⟨_, _, rfl, rfl, rfl⟩⟩⟩ := h
  exact ⟨v0, v1, rfl, g0, g1⟩
theorem k90_mk (w : World) (x : S90) {A0 : Option Addr} {c0 : Nat} (l0 : x.f0.length ≤ c0) (g0 : k98.C w A0 x.f0.length x.f0) {A1 : Option Addr} {c1 : Nat} (l1 : x.f1.length ≤ c1) (g1 : Kd.bool.C w A1 x.f1.length x.f1) : k90.K w x [.slice A0 x.f0.length c0, .slice A1 x.f1.length c1, .string x.f2, .int .i64 x.f3] := ⟨[.slice A0 x.f0.length c0], [.slice A1 x.f1.length c1, .string x.f2, .int .i64 x.f3], rfl, ⟨A0, c0, rfl, l0, g0⟩, ⟨[.slice A1 x.f1.length c1], [.string x.f2, .int .i64 x.f3], rfl, ⟨A1, c1, rfl, l1, g1⟩, ⟨[.string x.f2], [.int .i64 x.f3], rfl, rfl, rfl⟩⟩⟩
theorem k90_mkM (w : World) (base : Nat) (ok : Nat → Prop) (x : S90) {v0 : Value} (g0 : k98.R 98 w base ok v0 x.f0) {v1 : Value} (g1 : Kd.bool.R 4 w base ok v1 x.f1) : k90.M w base ok x [v0, v1, .string x.f2, .int .i64 x.f3] := ⟨[v0], [v1, .string x.f2, .int .i64 x.f3], rfl, ⟨v0, rfl, g0⟩, ⟨[v1], [.string x.f2, .int .i64 x.f3], rfl, ⟨v1, rfl, g1⟩, ⟨[.string x.f2], [.int .i64 x.f3], rfl, rfl, rfl⟩⟩⟩
theorem k90_openF {W : World} {ok : Nat → Prop} {x : S90} {cs : List Value} (h : Kd.FK k90 W ok x cs) : ∃ A0 c0 A1 c1, cs = [.slice A0 x.f0.length c0, .slice A1 x.f1.length c1, .string x.f2, .int .i64 x.f3] ∧ x.f0.length ≤ c0 ∧ Kd.F k98 W ok A0 x.f0.length x.f0 ∧ x.f1.length ≤ c1 ∧ Kd.F Kd.bool W ok A1 x.f1.length x.f1 := by
  obtain ⟨A0, c0, A1, c1, rfl, l0, _, l1, _⟩ := k90_open (Kd.FK_now h)
  exact ⟨A0, c0, A1, c1, rfl, l0, (fun W' hW => by obtain ⟨A0_, c0_, A1_, c1_, he, l0_, g0_, l1_, g1_⟩ := k90_open (h W' hW); injection (Option.some.inj (show some (Value.slice A0 x.f0.length c0) = some (Value.slice A0_ x.f0.length c0_) from congrArg (fun l => l[0]?) he)) with ha_ _ _; rw [ha_]; exact g0_), l1, (fun W' hW => by obtain ⟨A0_, c0_, A1_, c1_, he, l0_, g0_, l1_, g1_⟩ := k90_open (h W' hW); injection (Option.some.inj (show some (Value.slice A1 x.f1.length c1) = some (Value.slice A1_ x.f1.length c1_) from congrArg (fun l => l[1]?) he)) with ha_ _ _; rw [ha_]; exact g1_)⟩
theorem k90_mkF (W : World) (ok : Nat → Prop) (x : S90) {A0 : Option Addr} {c0 : Nat} (l0 : x.f0.length ≤ c0) (g0 : Kd.F k98 W ok A0 x.f0.length x.f0) {A1 : Option Addr} {c1 : Nat} (l1 : x.f1.length ≤ c1) (g1 : Kd.F Kd.bool W ok A1 x.f1.length x.f1) : Kd.FK k90 W ok x [.slice A0 x.f0.length c0, .slice A1 x.f1.length c1, .string x.f2, .int .i64 x.f3] := fun W2 hW => k90_mk W2 x l0 (g0 W2 hW) l1 (g1 W2 hW)
def rd_T90 (xs : List S90) (i : Int) : S90 := xs.getD i.toNat z90
theorem at_T90 {w : World} {A : Option Addr} {n : Nat} {xs : List S90} (h : Kd.C k90 w A n xs) (i : Int) (h0 : 0 ≤ i) (h1 : i < n) : ∃ ad A0 c0 A1 c1, A = some ad ∧ w.cell? (ad.add (i.toNat * 4)) = some (.slice A0 (rd_T90 xs i).f0.length c0) ∧ w.cell? ⟨(ad.add (i.toNat * 4)).block, (ad.add (i.toNat * 4)).off + 1, none⟩ = some (.slice A1 (rd_T90 xs i).f1.length c1) ∧ w.cell? ⟨(ad.add (i.toNat * 4)).block, (ad.add (i.toNat * 4)).off + 2, none⟩ = some (.string (rd_T90 xs i).f2) ∧ w.cell? ⟨(ad.add (i.toNat * 4)).block, (ad.add (i.toNat * 4)).off + 3, none⟩ = some (.int .i64 (rd_T90 xs i).f3) ∧ (rd_T90 xs i).f0.length ≤ c0 ∧ k98.C w A0 (rd_T90 xs i).f0.length (rd_T90 xs i).f0 ∧ (rd_T90 xs i).f1.length ≤ c1 ∧ Kd.bool.C w A1 (rd_T90 xs i).f1.length (rd_T90 xs i).f1 := by
  obtain ⟨ad, c, e, _, hK, hc0⟩ := Kd.C_get h z90 i h0 h1
  have hc : ∀ j u, c[j]? = some u → w.cell? (ad.add (i.toNat * 4 + j)) = some u := hc0
  obtain ⟨A0, c0, A1, c1, rfl, l0, g0, l1, g1⟩ := k90_open hK
  exact ⟨ad, A0, c0, A1, c1, e, hc 0 _ rfl, by rw [← add_field _ _ 1 (by omega)]; exact hc 1 _ rfl, by rw [← add_field _ _ 2 (by omega)]; exact hc 2 _ rfl, by rw [← add_field _ _ 3 (by omega)]; exact hc 3 _ rfl, l0, g0, l1, g1⟩

/-! #### struct type 91 -/
structure S91 where
  f0 : (List S98)
  f1 : (List Bool)
  f2 : ByteArray
  f3 : Int
def z91 : S91 := ⟨([] : List S98), ([] : List Bool), (⟨#[]⟩ : ByteArray), (0 : Int)⟩
def k91 : Kd S91 := Kd.iso (Kd.pair (Kd.slice 98 k98) (Kd.pair (Kd.slice 4 Kd.bool) (Kd.pair Kd.string (Kd.int .i64)))) (fun x : S91 => (x.f0, x.f1, x.f2, x.f3))
theorem k91_heap : Kd.Heap k91 := Kd.heap_iso _ (Kd.heap_pair (Kd.heap_slice 98 k98_heap) (Kd.heap_pair (Kd.heap_slice 4 Kd.heap_bool) (Kd.heap_pair Kd.heap_string (Kd.heap_int .i64))))
theorem k91_open {w : World} {x : S91} {cs : List Value} (h : k91.K w x cs) : ∃ A0 c0 A1 c1, cs = [.slice A0 x.f0.length c0, .slice A1 x.f1.length c1, .string x.f2, .int .i64 x.f3] ∧ x.f0.length ≤ c0 ∧ k98.C w A0 x.f0.length x.f0 ∧ x.f1.length ≤ c1 ∧ Kd.bool.C w A1 x.f1.length x.f1 := by
  obtain ⟨_, _, rfl, ⟨A0, c0, rfl, l0, g0⟩, ⟨_, _, rfl, ⟨A1, c1, rfl, l1, g1⟩, ⟨_, _, rfl, rfl, rfl⟩⟩⟩ := h
  exact ⟨A0, c0, A1, c1, rfl, l0, g0, l1, g1⟩
theorem k91_openM {w : World} {base : Nat} {ok : Nat → Prop} {x : S91} {cs : List Value} (h : k91.M w base ok x cs) : ∃ v0 v1, cs = [v0, v1, .string x.f2, .int .i64 x.f3] ∧ k98.R 98 w base ok v0 x.f0 ∧ Kd.bool.R 4 w base ok v1 x.f1 := by
  obtain ⟨_, _, rfl, ⟨v0, rfl, g0⟩, ⟨_, _, rfl, ⟨v1, rfl, g1⟩, ⟨_, _, rfl, rfl, rfl⟩⟩⟩ := h
  exact ⟨v0, v1, rfl, g0, g1⟩
theorem k91_mk (w : World) (x : S91) {A0 : Option Addr} {c0 : Nat} (l0 : x.f0.length ≤ c0) (g0 : k98.C w A0 x.f0.length x.f0) {A1 : Option Addr} {c1 : Nat} (l1 : x.f1.length ≤ c1) (g1 : Kd.bool.C w A1 x.f1.length x.f1) : k91.K w x [.slice A0 x.f0.length c0, .slice A1 x.f1.length c1, .string x.f2, .int .i64 x.f3] := ⟨[.slice A0 x.f0.length c0], [.slice A1 x.f1.length c1, .string x.f2, .int .i64 x.f3], rfl, ⟨A0, c0, rfl, l0, g0⟩, ⟨[.slice A1 x.f1.length c1], [.string x.f2, .int .i64 x.f3], rfl, ⟨A1, c1, rfl, l1, g1⟩, ⟨[.string x.f2], [.int .i64 x.f3], rfl, rfl, rfl⟩⟩⟩
theorem k91_mkM (w : World) (base : Nat) (ok : Nat → Prop) (x : S91) {v0 : Value} (g0 : k98.R 98 w base ok v0 x.f0) {v1 : Value} (g1 : Kd.bool.R 4 w base ok v1 x.f1) : k91.M w base ok x [v0, v1, .string x.f2, .int .i64 x.f3] := ⟨[v0], [v1, .string x.f2, .int .i64 x.f3], rfl, ⟨v0, rfl, g0⟩, ⟨[v1], [.string x.f2, .int .i64 x.f3], rfl, ⟨v1, rfl, g1⟩, ⟨[.string x.f2], [.int .i64 x.f3], rfl, rfl, rfl⟩⟩⟩
theorem k91_openF {W : World} {ok : Nat → Prop} {x : S91} {cs : List Value} (h : Kd.FK k91 W ok x cs) : ∃ A0 c0 A1 c1, cs = [.slice A0 x.f0.length c0, .slice A1 x.f1.length c1, .string x.f2, .int .i64 x.f3] ∧ x.f0.length ≤ c0 ∧ Kd.F k98 W ok A0 x.f0.length x.f0 ∧ x.f1.length ≤ c1 ∧ Kd.F Kd.bool W ok A1 x.f1.length x.f1 := by
  obtain ⟨A0, c0, A1, c1, rfl, l0, _, l1, _⟩ := k91_open (Kd.FK_now h)
  exact ⟨A0, c0, A1, c1, rfl, l0, (fun W' hW => by obtain ⟨A0_, c0_, A1_, c1_, he, l0_, g0_, l1_, g1_⟩ := k91_open (h W' hW); injection (Option.some.inj (show some (Value.slice A0 x.f0.length c0) = some (Value.slice A0_ x.f0.length c0_) from congrArg (fun l => l[0]?) he)) with ha_ _ _; rw [ha_]; exact g0_), l1, (fun W' hW => by obtain ⟨A0_, c0_, A1_, c1_, he, l0_, g0_, l1_, g1_⟩ := k91_open (h W' hW); injection (Option.some.inj (show some (Value.slice A1 x.f1.length c1) = some (Value.slice A1_ x.f1.length c1_) from congrArg (fun l => l[1]?) he)) with ha_ _ _; rw [ha_]; exact g1_)⟩
theorem k91_mkF (W : World) (ok : Nat → Prop) (x : S91) {A0 : Option Addr} {c0 : Nat} (l0 : x.f0.length ≤ c0) (g0 : Kd.F k98 W ok A0 x.f0.length x.f0) {A1 : Option Addr} {c1 : Nat} (l1 : x.f1.length ≤ c1) (g1 : Kd.F Kd.bool W ok A1 x.f1.length x.f1) : Kd.FK k91 W ok x [.slice A0 x.f0.length c0, .slice A1 x.f1.length c1, .string x.f2, .int .i64 x.f3] := fun W2 hW => k91_mk W2 x l0 (g0 W2 hW) l1 (g1 W2 hW)
def rd_T91 (xs : List S91) (i : Int) : S91 := xs.getD i.toNat z91
theorem at_T91 {w : World} {A : Option Addr} {n : Nat} {xs : List S91} (h : Kd.C k91 w A n xs) (i : Int) (h0 : 0 ≤ i) (h1 : i < n) : ∃ ad A0 c0 A1 c1, A = some ad ∧ w.cell? (ad.add (i.toNat * 4)) = some (.slice A0 (rd_T91 xs i).f0.length c0) ∧ w.cell? ⟨(ad.add (i.toNat * 4)).block, (ad.add (i.toNat * 4)).off + 1, none⟩ = some (.slice A1 (rd_T91 xs i).f1.length c1) ∧ w.cell? ⟨(ad.add (i.toNat * 4)).block, (ad.add (i.toNat * 4)).off + 2, none⟩ = some (.string (rd_T91 xs i).f2) ∧ w.cell? ⟨(ad.add (i.toNat * 4)).block, (ad.add (i.toNat * 4)).off + 3, none⟩ = some (.int .i64 (rd_T91 xs i).f3) ∧ (rd_T91 xs i).f0.length ≤ c0 ∧ k98.C w A0 (rd_T91 xs i).f0.length (rd_T91 xs i).f0 ∧ (rd_T91 xs i).f1.length ≤ c1 ∧ Kd.bool.C w A1 (rd_T91 xs i).f1.length (rd_T91 xs i).f1 := by
  obtain ⟨ad, c, e, _, hK, hc0⟩ := Kd.C_get h z91 i h0 h1
  have hc : ∀ j u, c[j]? = some u → w.cell? (ad.add (i.toNat * 4 + j)) = some u := hc0
  obtain ⟨A0, c0, A1, c1, rfl, l0, g0, l1, g1⟩ := k91_open hK
  exact ⟨ad, A0, c0, A1, c1, e, hc 0 _ rfl, by rw [← add_field _ _ 1 (by omega)]; exact hc 1 _ rfl, by rw [← add_field _ _ 2 (by omega)]; exact hc 2 _ rfl, by rw [← add_field _ _ 3 (by omega)]; exact hc 3 _ rfl, l0, g0, l1, g1⟩

/-! #### struct type 97 -/
structure S97 where
  f0 : ByteArray
  f1 : ByteArray
def z97 : S97 := ⟨(⟨#[]⟩ : ByteArray), (⟨#[]⟩ : ByteArray)⟩
def k97 : Kd S97 := Kd.iso (Kd.pair Kd.string Kd.string) (fun x : S97 => (x.f0, x.f1))
theorem k97_heap : Kd.Heap k97 := Kd.heap_iso _ (Kd.heap_pair Kd.heap_string Kd.heap_string)
theorem k97_open {w : World} {x : S97} {cs : List Value} (h : k97.K w x cs) : cs = [.string x.f0, .string x.f1] := by
  obtain ⟨_, _, rfl, rfl, rfl⟩ := h
  exact rfl
theorem k97_openM {w : World} {base : Nat} {ok : Nat → Prop} {x : S97} {cs : List Value} (h : k97.M w base ok x cs) : cs = [.string x.f0, .string x.f1] := by
  obtain ⟨_, _, rfl, rfl, rfl⟩ := h
  exact rfl
theorem k97_mk (w : World) (x : S97)  : k97.K w x [.string x.f0, .string x.f1] := ⟨[.string x.f0], [.string x.f1], rfl, rfl, rfl⟩
theorem k97_mkM (w : World) (base : Nat) (ok : Nat → Prop) (x : S97)  : k97.M w base ok x [.string x.f0, .string x.f1] := ⟨[.string x.f0], [.string x.f1], rfl, rfl, rfl⟩
theorem k97_mkF (W : World) (ok : Nat → Prop) (x : S97) : Kd.FK k97 W ok x [.string x.f0, .string x.f1] := fun W2 _ => k97_mk W2 x
def rd_T97 (xs : List S97) (i : Int) : S97 := xs.getD i.toNat z97
theorem at_T97 {w : World} {A : Option Addr} {n : Nat} {xs : List S97} (h : Kd.C k97 w A n xs) (i : Int) (h0 : 0 ≤ i) (h1 : i < n) : ∃ ad , A = some ad ∧ w.cell? (ad.add (i.toNat * 2)) = some (.string (rd_T97 xs i).f0) ∧ w.cell? ⟨(ad.add (i.toNat * 2)).block, (ad.add (i.toNat * 2)).off + 1, none⟩ = some (.string (rd_T97 xs i).f1) := by
  obtain ⟨ad, c, e, _, hK, hc0⟩ := Kd.C_get h z97 i h0 h1
  have hc : ∀ j u, c[j]? = some u → w.cell? (ad.add (i.toNat * 2 + j)) = some u := hc0
  obtain rfl := k97_open hK
  exact ⟨ad, e, hc 0 _ rfl, by rw [← add_field _ _ 1 (by omega)]; exact hc 1 _ rfl⟩

def rd_L32 (xs : List (List Int)) (i : Int) : (List Int) := xs.getD i.toNat ([] : List Int)
theorem at_L32 {w : World} {A : Option Addr} {n : Nat} {xs : List (List Int)} (h : Kd.C (Kd.slice 3 (Kd.int .i64)) w A n xs) (i : Int) (h0 : 0 ≤ i) (h1 : i < n) : ∃ ad A0 c0, A = some ad ∧ w.cell? (ad.add i.toNat) = some (.slice A0 (rd_L32 xs i).length c0) ∧ (rd_L32 xs i).length ≤ c0 ∧ (Kd.int .i64).C w A0 (rd_L32 xs i).length (rd_L32 xs i) := by
  obtain ⟨ad, c, e, _, hK, hc0⟩ := Kd.C_get h ([] : List Int) i h0 h1
  have hc : ∀ j u, c[j]? = some u → w.cell? (ad.add (i.toNat * 1 + j)) = some u := hc0
  obtain ⟨A0, c0, rfl, l0, g0⟩ := hK
  exact ⟨ad, A0, c0, e, by have hq := hc 0 _ rfl; rwa [Nat.mul_one, Nat.add_zero] at hq, l0, g0⟩

/-! #### struct type 112 -/
structure S112 where
  f0 : (List S117)
def z112 : S112 := ⟨([] : List S117)⟩
def k112 : Kd S112 := Kd.iso (Kd.slice 117 k117) (fun x : S112 => x.f0)
theorem k112_heap : Kd.Heap k112 := Kd.heap_iso _ (Kd.heap_slice 117 k117_heap)
theorem k112_open {w : World} {x : S112} {cs : List Value} (h : k112.K w x cs) : ∃ A0 c0, cs = [.slice A0 x.f0.length c0] ∧ x.f0.length ≤ c0 ∧ k117.C w A0 x.f0.length x.f0 := by
  obtain ⟨A0, c0, rfl, l0, g0⟩ := h
  exact ⟨A0, c0, rfl, l0, g0⟩
theorem k112_openM {w : World} {base : Nat} {ok : Nat → Prop} {x : S112} {cs : List Value} (h : k112.M w base ok x cs) : ∃ v0, cs = [v0] ∧ k117.R 117 w base ok v0 x.f0 := by
  obtain ⟨v0, rfl, g0⟩ := h
  exact ⟨v0, rfl, g0⟩
theorem k112_mk (w : World) (x : S112) {A0 : Option Addr} {c0 : Nat} (l0 : x.f0.length ≤ c0) (g0 : k117.C w A0 x.f0.length x.f0) : k112.K w x [.slice A0 x.f0.length c0] := ⟨A0, c0, rfl, l0, g0⟩
theorem k112_mkM (w : World) (base : Nat) (ok : Nat → Prop) (x : S112) {v0 : Value} (g0 : k117.R 117 w base ok v0 x.f0) : k112.M w base ok x [v0] := ⟨v0, rfl, g0⟩
theorem k112_openF {W : World} {ok : Nat → Prop} {x : S112} {cs : List Value} (h : Kd.FK k112 W ok x cs) : ∃ A0 c0, cs = [.slice A0 x.f0.length c0] ∧ x.f0.length ≤ c0 ∧ Kd.F k117 W ok A0 x.f0.length x.f0 := by
  obtain ⟨A0, c0, rfl, l0, _⟩ := k112_open (Kd.FK_now h)
  exact ⟨A0, c0, rfl, l0, (fun W' hW => by obtain ⟨A0_, c0_, he, l0_, g0_⟩ := k112_open (h W' hW); injection (Option.some.inj (show some (Value.slice A0 x.f0.length c0) = some (Value.slice A0_ x.f0.length c0_) from congrArg (fun l => l[0]?) he)) with ha_ _ _; rw [ha_]; exact g0_)⟩
theorem k112_mkF (W : World) (ok : Nat → Prop) (x : S112) {A0 : Option Addr} {c0 : Nat} (l0 : x.f0.length ≤ c0) (g0 : Kd.F k117 W ok A0 x.f0.length x.f0) : Kd.FK k112 W ok x [.slice A0 x.f0.length c0] := fun W2 hW => k112_mk W2 x l0 (g0 W2 hW)
def rd_T112 (xs : List S112) (i : Int) : S112 := xs.getD i.toNat z112
theorem at_T112 {w : World} {A : Option Addr} {n : Nat} {xs : List S112} (h : Kd.C k112 w A n xs) (i : Int) (h0 : 0 ≤ i) (h1 : i < n) : ∃ ad A0 c0, A = some ad ∧ w.cell? (ad.add i.toNat) = some (.slice A0 (rd_T112 xs i).f0.length c0) ∧ (rd_T112 xs i).f0.length ≤ c0 ∧ k117.C w A0 (rd_T112 xs i).f0.length (rd_T112 xs i).f0 := by
  obtain ⟨ad, c, e, _, hK, hc0⟩ := Kd.C_get h z112 i h0 h1
  have hc : ∀ j u, c[j]? = some u → w.cell? (ad.add (i.toNat * 1 + j)) = some u := hc0
  obtain ⟨A0, c0, rfl, l0, g0⟩ := k112_open hK
  exact ⟨ad, A0, c0, e, by have hq := hc 0 _ rfl; rwa [Nat.mul_one, Nat.add_zero] at hq, l0, g0⟩

/-! #### struct type 113 -/
structure S113 where
  f0 : (List S117)
def z113 : S113 := ⟨([] : List S117)⟩
def k113 : Kd S113 := Kd.iso (Kd.slice 117 k117) (fun x : S113 => x.f0)
theorem k113_heap : Kd.Heap k113 := Kd.heap_iso _ (Kd.heap_slice 117 k117_heap)
theorem k113_open {w : World} {x : S113} {cs : List Value} (h : k113.K w x cs) : ∃ A0 c0, cs = [.slice A0 x.f0.length c0] ∧ x.f0.length ≤ c0 ∧ k117.C w A0 x.f0.length x.f0 := by
  obtain ⟨A0, c0, rfl, l0, g0⟩ := h
  exact ⟨A0, c0, rfl, l0, g0⟩
theorem k113_openM {w : World} {base : Nat} {ok : Nat → Prop} {x : S113} {cs : List Value} (h : k113.M w base ok x cs) : ∃ v0, cs = [v0] ∧ k117.R 117 w base ok v0 x.f0 := by
  obtain ⟨v0, rfl, g0⟩ := h
  exact ⟨v0, rfl, g0⟩
theorem k113_mk (w : World) (x : S113) {A0 : Option Addr} {c0 : Nat} (l0 : x.f0.length ≤ c0) (g0 : k117.C w A0 x.f0.length x.f0) : k113.K w x [.slice A0 x.f0.length c0] := ⟨A0, c0, rfl, l0, g0⟩
theorem k113_mkM (w : World) (base : Nat) (ok : Nat → Prop) (x : S113) {v0 : Value} (g0 : k117.R 117 w base ok v0 x.f0) : k113.M w base ok x [v0] := ⟨v0, rfl, g0⟩
theorem k113_openF {W : World} {ok : Nat → Prop} {x : S113} {cs : List Value} (h : Kd.FK k113 W ok x cs) : ∃ A0 c0, cs = [.slice A0 x.f0.length c0] ∧ x.f0.length ≤ c0 ∧ Kd.F k117 W ok A0 x.f0.length x.f0 := by
  obtain ⟨A0, c0, rfl, l0, _⟩ := k113_open (Kd.FK_now h)
  exact ⟨A0, c0, rfl, l0, (fun W' hW => by obtain ⟨A0_, c0_, he, l0_, g0_⟩ := k113_open (h W' hW); injection (Option.some.inj (show some (Value.slice A0 x.f0.length c0) = some (Value.slice A0_ x.f0.length c0_) from congrArg (fun l => l[0]?) he)) with ha_ _ _; rw [ha_]; exact g0_)⟩
theorem k113_mkF (W : World) (ok : Nat → Prop) (x : S113) {A0 : Option Addr} {c0 : Nat} (l0 : x.f0.length ≤ c0) (g0 : Kd.F k117 W ok A0 x.f0.length x.f0) : Kd.FK k113 W ok x [.slice A0 x.f0.length c0] := fun W2 hW => k113_mk W2 x l0 (g0 W2 hW)
def rd_T113 (xs : List S113) (i : Int) : S113 := xs.getD i.toNat z113
theorem at_T113 {w : World} {A : Option Addr} {n : Nat} {xs : List S113} (h : Kd.C k113 w A n xs) (i : Int) (h0 : 0 ≤ i) (h1 : i < n) : ∃ ad A0 c0, A = some ad ∧ w.cell? (ad.add i.toNat) = some (.slice A0 (rd_T113 xs i).f0.length c0) ∧ (rd_T113 xs i).f0.length ≤ c0 ∧ k117.C w A0 (rd_T113 xs i).f0.length (rd_T113 xs i).f0 := by
  obtain ⟨ad, c, e, _, hK, hc0⟩ := Kd.C_get h z113 i h0 h1
  have hc : ∀ j u, c[j]? = some u → w.cell? (ad.add (i.toNat * 1 + j)) = some u := hc0
  obtain ⟨A0, c0, rfl, l0, g0⟩ := k113_open hK
  exact ⟨ad, A0, c0, e, by have hq := hc 0 _ rfl; rwa [Nat.mul_one, Nat.add_zero] at hq, l0, g0⟩

/-! #### struct type 116 -/
structure S116 where
  f0 : Int
  f1 : ByteArray
def z116 : S116 := ⟨(0 : Int), (⟨#[]⟩ : ByteArray)⟩
def k116 : Kd S116 := Kd.iso (Kd.pair (Kd.int .i64) Kd.string) (fun x : S116 => (x.f0, x.f1))
theorem k116_heap : Kd.Heap k116 := Kd.heap_iso _ (Kd.heap_pair (Kd.heap_int .i64) Kd.heap_string)
theorem k116_open {w : World} {x : S116} {cs : List Value} (h : k116.K w x cs) : cs = [.int .i64 x.f0, .string x.f1] := by
  obtain ⟨_, _, rfl, rfl, rfl⟩ := h
  exact rfl
theorem k116_openM {w : World} {base : Nat} {ok : Nat → Prop} {x : S116} {cs : List Value} (h : k116.M w base ok x cs) : cs = [.int .i64 x.f0, .string x.f1] := by
  obtain ⟨_, _, rfl, rfl, rfl⟩ := h
  exact rfl
theorem k116_mk (w : World) (x : S116)  : k116.K w x [.int .i64 x.f0, .string x.f1] := ⟨[.int .i64 x.f0], [.string x.f1], rfl, rfl, rfl⟩
theorem k116_mkM (w : World) (base : Nat) (ok : Nat → Prop) (x : S116)  : k116.M w base ok x [.int .i64 x.f0, .string x.f1] := ⟨[.int .i64 x.f0], [.string x.f1], rfl, rfl, rfl⟩
theorem k116_mkF (W : World) (ok : Nat → Prop) (x : S116) : Kd.FK k116 W ok x [.int .i64 x.f0, .string x.f1] := fun W2 _ => k116_mk W2 x
def rd_T116 (xs : List S116) (i : Int) : S116 := xs.getD i.toNat z116
theorem at_T116 {w : World} {A : Option Addr} {n : Nat} {xs : List S116} (h : Kd.C k116 w A n xs) (i : Int) (h0 : 0 ≤ i) (h1 : i < n) : ∃ ad , A = some ad ∧ w.cell? (ad.add (i.toNat * 2)) = some (.int .i64 (rd_T116 xs i).f0) ∧ w.cell? ⟨(ad.add (i.toNat * 2)).block, (ad.add (i.toNat * 2)).off + 1, none⟩ = some (.string (rd_T116 xs i).f1) := by
  obtain ⟨ad, c, e, _, hK, hc0⟩ := Kd.C_get h z116 i h0 h1
  have hc : ∀ j u, c[j]? = some u → w.cell? (ad.add (i.toNat * 2 + j)) = some u := hc0
  obtain rfl := k116_open hK
  exact ⟨ad, e, hc 0 _ rfl, by rw [← add_field _ _ 1 (by omega)]; exact hc 1 _ rfl⟩

end Go.Proofs.Ytdlbmajilmmapaa.F
