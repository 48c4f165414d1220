/- Texts of this claim, 4 of 29: Fx. -/
import Derived.Test.YtcmipoicnonaeaaProg
import Derived.Below
import Derived.Deep.Draws
import Derived.Deep.AppendLies
import Derived.Maps.AppendAt
import Derived.OwnWalk
import Derived.Laws.BytesArg
import Derived.Laws.MakeOwn
import Derived.Laws.OwnMore
import Derived.Deep.OwnRows
import Derived.Tactics
import Derived.Lib.ConvBytes
import Derived.Laws.Slices
import Derived.WalkKit
import Derived.KernelRfl
import Derived.RowKit3
import Derived.Deep.LoopGhost
import Derived.Deep.QuietTactic
import Derived.BigQuiet
import Derived.WideLaws
import Derived.Deep.DeepCutAuto
import Derived.Deep.CutBlock
import Derived.Deep.RegionHeld3
import Derived.Laws.Rows
import Derived.Lib.AppendStr
import Derived.ArgAppend
import Derived.Laws.IdiomCopy
import Derived.OrdersHeld
import Derived.Laws.BitsLemmas
import Derived.RowKit
import Derived.WalkMore
import Derived.Test.YtcmipoicnonaeaaKS1
import Derived.Test.YtcmipoicnonaeaaKS2
import Derived.Test.YtcmipoicnonaeaaKS3
section
namespace Go.Proofs.Ytcmipoicnonaeaa.F
open Go.RowKit Go.Proofs.YtcmipoicnonaeaaW.PrintWords Go.Proofs.YtcmipoicnonaeaaW.PrintLast Go.Proofs.YtcmipoicnonaeaaW.PrintMore
attribute [local go_sem] qbs qbr qc7 qc0 qbh qbj qbp qbq
set_option linter.unusedVariables false
set_option linter.unusedSimpArgs false
theorem wrap_wrap (x y : Int) : wrap64 (wrap64 x + y) = wrap64 (x + y) := by unfold wrap64; omega
def errW : Option Int → Value
 | none => .nilIface
 | some c => .iface 0 (.int .i64 c)
theorem qah : errW none = .nilIface := rfl
theorem qai (c : Int) : errW (some c) = .iface 0 (.int .i64 c) := rfl
theorem info3 : (Try.prog.info? 3).map (fun i => (i.zero, i.size, i.bytes)) = some (some (.int .i64 0), 1, 8) := by kernel_rfl
theorem info27 : (Try.prog.info? 27).map (fun i => (i.zero, i.size, i.bytes)) = some (some (.agg #[(.int .i64 0), (.int .u64 0), (.int .u64 0), (.int .u64 0), (.int .u64 0), (.int .i64 0), (.int .i64 0), (.int .i64 0), (.slice none 0 0)]), 9, 88) := by kernel_rfl
theorem info59 : (Try.prog.info? 59).map (fun i => (i.zero, i.size, i.bytes)) = some (some (.agg #[(.slice none 0 0), (.slice none 0 0), (.int .i64 0), (.int .i64 0)]), 4, 64) := by kernel_rfl
structure S7 where
 f0 : Int
 f1 : Int
 f2 : Bool
 f3 : Int
def z7 : S7 := ⟨(0 : Int), (0 : Int), false, (0 : Int)⟩
def k7 : Kd S7 := Kd.iso (Kd.pair (Kd.int .i64) (Kd.pair (Kd.int .i64) (Kd.pair Kd.bool (Kd.int .u8)))) (fun x : S7 => (x.f0, x.f1, x.f2, x.f3))
structure S8 where
 f0 : Int
 f1 : Int
 f2 : Bool
 f3 : Int
def z8 : S8 := ⟨(0 : Int), (0 : Int), false, (0 : Int)⟩
def k8 : Kd S8 := Kd.iso (Kd.pair (Kd.int .i64) (Kd.pair (Kd.int .i64) (Kd.pair Kd.bool (Kd.int .u8)))) (fun x : S8 => (x.f0, x.f1, x.f2, x.f3))
structure S13 where
 f0 : ByteArray
 f1 : Int
structure S14 where
 f0 : ByteArray
 f1 : Int
structure S23 where
 f0 : Int
 f1 : Int
 f2 : Int
 f3 : Int
structure S24 where
 f0 : Int
 f1 : Int
 f2 : Int
 f3 : Int
def z24 : S24 := ⟨(0 : Int), (0 : Int), (0 : Int), (0 : Int)⟩
def k24 : Kd S24 := Kd.iso (Kd.pair (Kd.int .u64) (Kd.pair (Kd.int .u64) (Kd.pair (Kd.int .u64) (Kd.int .u64)))) (fun x : S24 => (x.f0, x.f1, x.f2, x.f3))
theorem k24_open {w : World} {x : S24} {cs : List Value} (h : k24.K w x cs) : cs = [.int .u64 x.f0, .int .u64 x.f1, .int .u64 x.f2, .int .u64 x.f3] := by
 obtain ⟨_, _, rfl, rfl, ⟨_, _, rfl, rfl, ⟨_, _, rfl, rfl, rfl⟩⟩⟩ := h
 exact rfl
theorem k24_openM {w : World} {base : Nat} {ok : Nat → Prop} {x : S24} {cs : List Value} (h : k24.M w base ok x cs) : cs = [.int .u64 x.f0, .int .u64 x.f1, .int .u64 x.f2, .int .u64 x.f3] := by
 obtain ⟨_, _, rfl, rfl, ⟨_, _, rfl, rfl, ⟨_, _, rfl, rfl, rfl⟩⟩⟩ := h
 exact rfl
theorem k24_mkM (w : World) (base : Nat) (ok : Nat → Prop) (x : S24)  : k24.M w base ok x [.int .u64 x.f0, .int .u64 x.f1, .int .u64 x.f2, .int .u64 x.f3] := ⟨[.int .u64 x.f0], [.int .u64 x.f1, .int .u64 x.f2, .int .u64 x.f3], rfl, rfl, ⟨[.int .u64 x.f1], [.int .u64 x.f2, .int .u64 x.f3], rfl, rfl, ⟨[.int .u64 x.f2], [.int .u64 x.f3], rfl, rfl, rfl⟩⟩⟩
structure S27 where
 f0 : Int
 f1 : S24
 f2 : Int
 f3 : Int
 f4 : Int
 f5 : (List S27)
def z27 : S27 := ⟨(0 : Int), z24, (0 : Int), (0 : Int), (0 : Int), ([] : List S27)⟩
def F27 (d : Kd S27) : Kd S27 := Kd.iso (Kd.pair (Kd.int .i64) (Kd.pair k24 (Kd.pair (Kd.int .i64) (Kd.pair (Kd.int .i64) (Kd.pair (Kd.int .i64) (Kd.slice 27 d)))))) (fun x : S27 => (x.f0, x.f1, x.f2, x.f3, x.f4, x.f5))
theorem mono27 : Kd.Mono F27 := Kd.mono_iso _ (Kd.qf6 (Kd.qet _) (Kd.qf6 (Kd.qet _) (Kd.qf6 (Kd.qet _) (Kd.qf6 (Kd.qet _) (Kd.qf6 (Kd.qet _) (Kd.mono_slice 27 Kd.mono_id))))))
theorem sub27 : Kd.Sub F27 [27] := Kd.sub_iso _ (Kd.qfl (Kd.qf7 _ (by decide)) (Kd.qfl (Kd.qf7 _ (by decide)) (Kd.qfl (Kd.qf7 _ (by decide)) (Kd.qfl (Kd.qf7 _ (by decide)) (Kd.qfl (Kd.qf7 _ (by decide)) (Kd.sub_slice 27 (by decide) Kd.sub_id))))))
theorem sz27 : ∀ n, (Kd.upto F27 9 [27] n).sz = 9 := Kd.upto_sz (fun _ => rfl)
def k27 : Kd S27 := Kd.fix F27 9 [27] sz27 (Kd.upto_E sub27)
theorem k27_open {w : World} {x : S27} {cs : List Value} (h : k27.K w x cs) : ∃ A8 c8, cs = [.int .i64 x.f0, .int .u64 x.f1.f0, .int .u64 x.f1.f1, .int .u64 x.f1.f2, .int .u64 x.f1.f3, .int .i64 x.f2, .int .i64 x.f3, .int .i64 x.f4, .slice A8 x.f5.length c8] ∧ x.f5.length ≤ c8 ∧ k27.C w A8 x.f5.length x.f5 := by
 obtain ⟨n, h⟩ := h
 cases n with
 | zero => exact h.elim
 | succ n =>
  obtain ⟨_, _, rfl, rfl, ⟨_, _, rfl, s1, ⟨_, _, rfl, rfl, ⟨_, _, rfl, rfl, ⟨_, _, rfl, rfl, ⟨A8, c8, rfl, l8, g8⟩⟩⟩⟩⟩⟩ := h
  obtain rfl := k24_open s1
  exact ⟨A8, c8, rfl, l8, Kd.fix_C g8⟩
theorem qft {w : World} {base : Nat} {ok : Nat → Prop} {x : S27} {cs : List Value} (h : k27.M w base ok x cs) : ∃ v8, cs = [.int .i64 x.f0, .int .u64 x.f1.f0, .int .u64 x.f1.f1, .int .u64 x.f1.f2, .int .u64 x.f1.f3, .int .i64 x.f2, .int .i64 x.f3, .int .i64 x.f4, v8] ∧ k27.R 27 w base ok v8 x.f5 := by
 obtain ⟨n, h⟩ := h
 cases n with
 | zero => exact h.elim
 | succ n =>
  obtain ⟨_, _, rfl, rfl, ⟨_, _, rfl, s1, ⟨_, _, rfl, rfl, ⟨_, _, rfl, rfl, ⟨_, _, rfl, rfl, ⟨v8, rfl, g8⟩⟩⟩⟩⟩⟩ := h
  obtain rfl := k24_openM s1
  exact ⟨v8, rfl, Kd.fix_R g8⟩
theorem qfv (w : World) (base : Nat) (ok : Nat → Prop) (x : S27) {v8 : Value} (g8 : k27.R 27 w base ok v8 x.f5) : k27.M w base ok x [.int .i64 x.f0, .int .u64 x.f1.f0, .int .u64 x.f1.f1, .int .u64 x.f1.f2, .int .u64 x.f1.f3, .int .i64 x.f2, .int .i64 x.f3, .int .i64 x.f4, v8] := by
 obtain ⟨n8, q8⟩ := Kd.fix_R_back mono27 g8
 have r8 := Kd.upto_R_le mono27 sz27 (show n8 ≤ n8 by omega) q8
 exact ⟨n8 + 1, ⟨[.int .i64 x.f0], [.int .u64 x.f1.f0, .int .u64 x.f1.f1, .int .u64 x.f1.f2, .int .u64 x.f1.f3, .int .i64 x.f2, .int .i64 x.f3, .int .i64 x.f4, v8], rfl, rfl, ⟨[.int .u64 x.f1.f0, .int .u64 x.f1.f1, .int .u64 x.f1.f2, .int .u64 x.f1.f3], [.int .i64 x.f2, .int .i64 x.f3, .int .i64 x.f4, v8], rfl, (k24_mkM w base ok x.f1 ), ⟨[.int .i64 x.f2], [.int .i64 x.f3, .int .i64 x.f4, v8], rfl, rfl, ⟨[.int .i64 x.f3], [.int .i64 x.f4, v8], rfl, rfl, ⟨[.int .i64 x.f4], [v8], rfl, rfl, ⟨v8, rfl, r8⟩⟩⟩⟩⟩⟩⟩
def qag (xs : List S27) (i : Int) : S27 := xs.getD i.toNat z27
theorem qdo {w : World} {A : Option Addr} {n : Nat} {xs : List S27} (h : Kd.C k27 w A n xs) (i : Int) (h0 : 0 ≤ i) (h1 : i < n) : ∃ ad A8 c8, A = some ad ∧ w.cell? (ad.add (i.toNat * 9)) = some (.int .i64 (qag xs i).f0) ∧ w.cell? ⟨(ad.add (i.toNat * 9)).block, (ad.add (i.toNat * 9)).off + 1, none⟩ = some (.int .u64 (qag xs i).f1.f0) ∧ w.cell? ⟨(ad.add (i.toNat * 9)).block, (ad.add (i.toNat * 9)).off + 2, none⟩ = some (.int .u64 (qag xs i).f1.f1) ∧ w.cell? ⟨(ad.add (i.toNat * 9)).block, (ad.add (i.toNat * 9)).off + 3, none⟩ = some (.int .u64 (qag xs i).f1.f2) ∧ w.cell? ⟨(ad.add (i.toNat * 9)).block, (ad.add (i.toNat * 9)).off + 4, none⟩ = some (.int .u64 (qag xs i).f1.f3) ∧ w.cell? ⟨(ad.add (i.toNat * 9)).block, (ad.add (i.toNat * 9)).off + 5, none⟩ = some (.int .i64 (qag xs i).f2) ∧ w.cell? ⟨(ad.add (i.toNat * 9)).block, (ad.add (i.toNat * 9)).off + 6, none⟩ = some (.int .i64 (qag xs i).f3) ∧ w.cell? ⟨(ad.add (i.toNat * 9)).block, (ad.add (i.toNat * 9)).off + 7, none⟩ = some (.int .i64 (qag xs i).f4) ∧ w.cell? ⟨(ad.add (i.toNat * 9)).block, (ad.add (i.toNat * 9)).off + 8, none⟩ = some (.slice A8 (qag xs i).f5.length c8) ∧ (qag xs i).f5.length ≤ c8 ∧ k27.C w A8 (qag xs i).f5.length (qag xs i).f5 := by
 obtain ⟨ad, c, e, _, hK, hc0⟩ := Kd.C_get h z27 i h0 h1
 have hc : ∀ j u, c[j]? = some u → w.cell? (ad.add (i.toNat * 9 + j)) = some u := hc0
 obtain ⟨A8, c8, rfl, l8, g8⟩ := k27_open hK
 exact ⟨ad, A8, c8, e, hc 0 _ rfl, by rw [← qd9 _ _ 1 (by omega)]; exact hc 1 _ rfl, by rw [← qd9 _ _ 2 (by omega)]; exact hc 2 _ rfl, by rw [← qd9 _ _ 3 (by omega)]; exact hc 3 _ rfl, by rw [← qd9 _ _ 4 (by omega)]; exact hc 4 _ rfl, by rw [← qd9 _ _ 5 (by omega)]; exact hc 5 _ rfl, by rw [← qd9 _ _ 6 (by omega)]; exact hc 6 _ rfl, by rw [← qd9 _ _ 7 (by omega)]; exact hc 7 _ rfl, by rw [← qd9 _ _ 8 (by omega)]; exact hc 8 _ rfl, l8, g8⟩
structure S26 where
 f0 : Int
 f1 : S24
 f2 : Int
 f3 : Int
 f4 : Int
 f5 : (List S27)
structure S29 where
 f0 : Int
 f1 : Int
structure S30 where
 f0 : Int
 f1 : Int
structure S38 where
 f0 : Bool
 f1 : Bool
 f2 : Bool
 f3 : Bool
 f4 : Bool
 f5 : Bool
 f6 : Bool
 f7 : Bool
 f8 : Bool
 f9 : Bool
structure S48 where
 f0 : Int
 f1 : Int
 f2 : Int
 f3 : Int
 f4 : Bool
 f5 : Bool
 f6 : Bool
structure S49 where
 f0 : Int
 f1 : Int
 f2 : Int
 f3 : Int
 f4 : Bool
 f5 : Bool
 f6 : Bool
structure S58 where
 f0 : (List S27)
 f1 : (List Int)
 f2 : Int
 f3 : Int
structure S59 where
 f0 : (List S27)
 f1 : (List Int)
 f2 : Int
 f3 : Int
structure S61 where
 f0 : (List S59)
 f1 : Int
 f2 : S38
 f3 : Int
structure S62 where
 f0 : (List S59)
 f1 : Int
 f2 : S38
 f3 : Int
structure S66 where
 f0 : Int
 f1 : Int
 f2 : S24
 f3 : Int
 f4 : Int
 f5 : Int
structure S67 where
 f0 : Int
 f1 : Int
 f2 : S24
 f3 : Int
 f4 : Int
 f5 : Int
structure S72 where
 f0 : ByteArray
 f1 : Int
 f2 : Int
 f3 : Int
 f4 : Int
 f5 : S38
 f6 : Int
structure S73 where
 f0 : ByteArray
 f1 : Int
 f2 : Int
 f3 : Int
 f4 : Int
 f5 : S38
 f6 : Int
structure S106 where
 f0 : ByteArray
 f1 : Int
 f2 : Int
structure S107 where
 f0 : ByteArray
 f1 : Int
 f2 : Int
structure S112 where
 f0 : S24
 f1 : Int
 f2 : Bool
 f3 : Int
 f4 : Int
structure S113 where
 f0 : S24
 f1 : Int
 f2 : Bool
 f3 : Int
 f4 : Int
end Go.Proofs.Ytcmipoicnonaeaa.F
end
