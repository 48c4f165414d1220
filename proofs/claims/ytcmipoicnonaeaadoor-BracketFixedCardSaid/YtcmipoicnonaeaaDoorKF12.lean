/- Texts of this claim, 12 of 19: F47, F27, F49, F28, E24. -/
import Derived.RangeFuncBox
import Derived.RangeFuncLeaves
import Derived.Shelf.Abstract
import Derived.WalkKit
import Derived.OwnWalkIn
import Derived.TacticsInMore
import Derived.LoopNIn
import Derived.LoopIn
import Derived.Laws.BitsAllLaws
import Derived.Lib.Bytealg
import Derived.Lib.Strings
import Derived.Test.YtcmipoicnonaeaaDoorKF4
import Derived.Test.YtcmipoicnonaeaaDoorKF11
section
namespace Go.Proofs.YtcmipoicnonaeaaDoor.F
open Go.RowKit Go.Shelf Go.Proofs.YtcmipoicnonaeaaDoorW.PrintWords
set_option linter.unusedVariables false
set_option linter.unusedSimpArgs false
def wordL (base : Int) : Nat → Int → List UInt8
  | 0, _ => []
  | k + 1, x => if x = 0 then [] else (base + tz x).toNat.toUInt8 :: wordL base k (Go.bits .and .u64 x (x - 1))
def restL (s0 s1 s2 s3 : Int) : Nat → List UInt8
  | 0 => wordL 0 s0.toNat s0 ++ (wordL 64 s1.toNat s1 ++ (wordL 128 s2.toNat s2 ++ wordL 192 s3.toNat s3))
  | 1 => wordL 64 s1.toNat s1 ++ (wordL 128 s2.toNat s2 ++ wordL 192 s3.toNat s3)
  | 2 => wordL 128 s2.toNat s2 ++ wordL 192 s3.toNat s3
  | 3 => wordL 192 s3.toNat s3
  | _ => []
def membL (s0 s1 s2 s3 : Int) : List UInt8 := restL s0 s1 s2 s3 0
theorem and_pred {x : Int} (h0 : 0 < x) (h1 : x < 18446744073709551616) : 0 ≤ Go.bits .and .u64 x (x - 1) ∧ Go.bits .and .u64 x (x - 1) < x := by
  rw [u64_and x (x - 1) (by omega) h1 (by omega) (by omega)]
  have : x.toNat &&& (x - 1).toNat ≤ (x - 1).toNat := Nat.and_le_right
  omega
theorem wordL_fuel (base : Int) : ∀ (n : Nat) (x : Int), x.toNat ≤ n → 0 ≤ x → x < 18446744073709551616 → wordL base n x = wordL base x.toNat x
  | 0, x, h, h0, _ => by
    have : x = 0 := by omega
    subst this
    rfl
  | n + 1, x, h, h0, h1 => by
    by_cases hx : x = 0
    · subst hx
      simp [wordL]
    · obtain ⟨m, hm⟩ : ∃ m, x.toNat = m + 1 := ⟨x.toNat - 1, by omega⟩
      have ha := and_pred (x := x) (by omega) h1
      rw [hm]
      simp only [wordL, if_neg hx]
      rw [wordL_fuel base n _ (by omega) ha.1 (by omega), wordL_fuel base m _ (by omega) ha.1 (by omega)]
theorem wordL_step (base : Int) {x : Int} (hx : x ≠ 0) (h0 : 0 ≤ x) (h1 : x < 18446744073709551616) :
    wordL base x.toNat x = (base + tz x).toNat.toUInt8 :: wordL base (Go.bits .and .u64 x (x - 1)).toNat (Go.bits .and .u64 x (x - 1)) := by
  obtain ⟨m, hm⟩ : ∃ m, x.toNat = m + 1 := ⟨x.toNat - 1, by omega⟩
  have ha := and_pred (x := x) (by omega) h1
  rw [hm]
  simp only [wordL, if_neg hx]
  rw [wordL_fuel base m _ (by omega) ha.1 (by omega)]
theorem wordL_zero (base : Int) (n : Nat) : wordL base n 0 = [] := by cases n <;> simp [wordL]
theorem byte_back {j : Int} (h0 : 0 ≤ j) (h1 : j < 256) : ((j.toNat.toUInt8).toNat : Int) = j := by
  simp only [Nat.toUInt8, UInt8.toNat_ofNat']
  omega
theorem u8_keep {j : Int} (h0 : 0 ≤ j) (h1 : j < 256) : IntKind.u8.wrap j = j := by
  simp [IntKind.wrap, IntKind.bits, IntKind.signed]
  omega
theorem u64_keep {j : Int} (h0 : 0 ≤ j) (h1 : j < 18446744073709551616) : IntKind.u64.wrap j = j := by
  simp [IntKind.wrap, IntKind.bits, IntKind.signed]
  omega
theorem index4 (s0 s1 s2 s3 : Int) (W : World) (k : Nat) (hk : k < 4) (v : Value) (hv : (#[Value.int .u64 s0, Value.int .u64 s1, Value.int .u64 s2, Value.int .u64 s3] : Array Value)[k]? = some v) :
    Sem.run Tryd.prog (Instr.index 24 (.agg #[.int .u64 s0, .int .u64 s1, .int .u64 s2, .int .u64 s3]) (.int .i64 (k : Int))) W = .ok v W := by
  rcases (by omega : k = 0 ∨ k = 1 ∨ k = 2 ∨ k = 3) with rfl | rfl | rfl | rfl
  all_goals
    cases hv
    have hu := Tryd.underlying24
    simp [Instr.index, go_sem, hu]
attribute [local go_sem] Oper.semAt_some
set_option maxHeartbeats 4000000 in
set_option maxRecDepth 100000 in
theorem members1_in (n : Nat) (hn : 1 ≤ n) (l Bn n₀ : Nat) (s0 s1 s2 s3 : Int) (hs0 : 0 ≤ s0 ∧ s0 < 18446744073709551616) (hs1 : 0 ≤ s1 ∧ s1 < 18446744073709551616) (hs2 : 0 ≤ s2 ∧ s2 < 18446744073709551616) (hs3 : 0 ≤ s3 ∧ s3 < 18446744073709551616) (J Jx : List UInt8 → World → Prop)
    (hY : ∀ pre x W, J pre W → pre.length < (membL s0 s1 s2 s3).length → YieldAt Fence.wide (n - 1) Tryd.prog l #[.int .u8 (x.toNat : Int)] W fun e W' =>
      (e = .returned (.bool true) ∧ J (pre ++ [x]) W' ∧ Below n₀ W W') ∨ (e = .returned (.bool false) ∧ Jx (pre ++ [x]) W'))
    (W : World) (hBn : W.heap[Bn]? = some (.cells #[.int .u64 s0, .int .u64 s1, .int .u64 s2, .int .u64 s3] 24 (0, 0))) (hD : DB W) (hn₀ : 0 < n₀) (h0 : J [] W) :
    CallsIn Fence.wide n Tryd.prog 47 #[.func (.yield l) #[] #[], .pointer (some ⟨Bn, 0, none⟩)] W fun e W' => (∃ v, e = .returned v) ∧
      ((∃ ys, ys = membL s0 s1 s2 s3 ∧ J ys W') ∨ (∃ pre, pre <+: membL s0 s1 s2 s3 ∧ Jx pre W')) := by
  have k0 : W.cell? ⟨Bn, 0, none⟩ = some (.int .u64 s0) := (blk_cell hBn 0).trans rfl
  have k1 : W.cell? ⟨Bn, 1, none⟩ = some (.int .u64 s1) := (blk_cell hBn 1).trans rfl
  have k2 : W.cell? ⟨Bn, 2, none⟩ = some (.int .u64 s2) := (blk_cell hBn 2).trans rfl
  have k3 : W.cell? ⟨Bn, 3, none⟩ = some (.int .u64 s3) := (blk_cell hBn 3).trans rfl
  have HD := Aside0.mk hD
  have HH := Aside0.mk (And.intro hs0 (And.intro hs1 (And.intro hs2 hs3)))
  clear hBn hD hs0 hs1 hs2 hs3
  refine callsIn_of_wp Tryd.func47 rfl trivial ?_ rfl
  simp only [Tryd.ntmps47, List.size_toArray, List.length_cons, List.length_nil, Nat.reduceAdd, Nat.reduceSub, Array.replicate_succ, Array.replicate_zero, List.push_toArray, List.append_toArray, List.nil_append, List.cons_append]
  gi_wp2
  gi_loopw [6] (fun i wr => ∃ (k : Nat) (pre : List UInt8), k ≤ 4 ∧ i = .int .i64 k ∧ pre ++ restL s0 s1 s2 s3 k = membL s0 s1 s2 s3 ∧ J pre wr ∧ Aside0 (Below n₀ W wr))
    (fun i _ => 4 - (intOf i).toNat)
  case atStart => exact ⟨0, [], Nat.zero_le _, rfl, List.nil_append _, h0, ⟨Below.refl _ _⟩⟩
  case round =>
    clear h0
    obtain ⟨k, pre, hk, rfl, hp, hJs, HB⟩ := hrel
    by_cases hk4 : k = 4
    · subst hk4
      gi_wp2
      go_end0
      exact ⟨⟨_, rfl⟩, .inl ⟨pre, by rw [← hp]; exact (List.append_nil _).symm, hJs⟩⟩
    · obtain ⟨sk, hsk, hsr⟩ : ∃ sk : Int, (#[Value.int .u64 s0, Value.int .u64 s1, Value.int .u64 s2, Value.int .u64 s3] : Array Value)[k]? = some (.int .u64 sk) ∧ (0 ≤ sk ∧ sk < 18446744073709551616) ∧ restL s0 s1 s2 s3 k = wordL (64 * (k : Int)) sk.toNat sk ++ restL s0 s1 s2 s3 (k + 1) := by
        obtain ⟨q0, q1, q2, q3⟩ := HH.out
        rcases (by omega : k = 0 ∨ k = 1 ∨ k = 2 ∨ k = 3) with rfl | rfl | rfl | rfl
        · exact ⟨s0, rfl, q0, rfl⟩
        · exact ⟨s1, rfl, q1, rfl⟩
        · exact ⟨s2, rfl, q2, rfl⟩
        · exact ⟨s3, rfl, q3, (List.append_nil _).symm⟩
      have HS := Aside0.mk hsr
      have HP := Aside0.mk hp
      have hk3 : k < 4 := by omega
      have hk0 : ((k : Int) < 4) = True := eq_true (by omega)
      clear hsr hp hk hk4
      have hix := index4 s0 s1 s2 s3 wr k hk3 _ hsk
      gi_wp2
      gi_loopw [4] (fun v wr => ∃ (x : Int) (pre : List UInt8), v = .int .u64 x ∧ Aside0 (0 ≤ x ∧ x < 18446744073709551616) ∧ Aside0 (pre ++ (wordL (64 * (k : Int)) x.toNat x ++ restL s0 s1 s2 s3 (k + 1)) = membL s0 s1 s2 s3) ∧ J pre wr ∧ Aside0 (Below n₀ W wr))
        (fun v _ => (intOf v).toNat)
      case atStart => exact ⟨sk, pre, rfl, ⟨HS.out.1⟩, ⟨by rw [← HS.out.2]; exact HP.out⟩, hJs, HB⟩
      case round =>
        clear hix hJs HB HP HS hsk
        obtain ⟨x, pre, rfl, HX, HP, hJs, HB⟩ := hrel
        by_cases hx : x = 0
        · subst hx
          have hP := HP.out
          rw [wordL_zero, List.nil_append] at hP
          have hkw : wrap64 ((k : Int) + 1) = ((k + 1 : Nat) : Int) := by rw [wrap_id (by omega) (by omega)]; omega
          gi_wp2
          go_roundw
          case rel => exact ⟨k + 1, pre, by omega, by first | rfl | (rw [hkw]) | (simp [hkw]), hP, hJs, HB⟩
          case measure => simp [intOf, hkw]; omega
        · have cx : (x != 0) = true := bne_iff_ne.2 hx
          have hst := wordL_step (64 * (k : Int)) hx HX.out.1 HX.out.2
          have htz := tz_range x
          have hap := and_pred (x := x) (by have := HX.out; omega) HX.out.2
          have HDr := Aside0.mk (HD.out.below hn₀ HB.out)
          obtain ⟨j, hj⟩ : ∃ j : Int, 64 * (k : Int) + tz x = j := ⟨_, rfl⟩
          have hjr : 0 ≤ j ∧ j < 256 := by omega
          have hw1 : wrap64 (64 * (k : Int)) = 64 * (k : Int) := wrap_id (by omega) (by omega)
          have hw2 : wrap64 (64 * (k : Int) + tz x) = j := by rw [hj]; exact wrap_id (by omega) (by omega)
          have hw3 : IntKind.u8.wrap j = j := u8_keep hjr.1 hjr.2
          have hw4 : IntKind.u64.wrap (x - 1) = x - 1 := u64_keep (by have := HX.out; omega) (by have := HX.out; omega)
          rw [hj] at hst
          have hP := HP.out
          rw [hst, List.cons_append] at hP
          obtain ⟨fn, tmps, assign, body, hy, hR⟩ := hY pre j.toNat.toUInt8 wr hJs (by rw [← hP, List.length_append, List.length_cons]; omega)
          rw [byte_back hjr.1 hjr.2] at hy
          have HAP := Aside0.mk hap
          have HP2 := Aside0.mk hP
          have HST := Aside0.mk hst
          have HTZ := Aside0.mk htz
          have HJ := Aside0.mk hj
          clear hap hP hst htz hj hjr
          gi_wp2_with (refine ⟨trivial, ?_⟩; gi_at_call 48; refine (callsIn_wide.2 (bits_TrailingZeros64_calls x _ hx HDr.out)).mono ?_; rintro e w' ⟨rfl, rfl⟩)
          refine hR.mono ?_
          rintro e W3 (⟨rfl, hJ3, hk3'⟩ | ⟨rfl, hJx3⟩)
          · gi_wp2
            go_roundw
            case rel => exact ⟨_, pre ++ [j.toNat.toUInt8], rfl, ⟨HAP.out.1, by have := HAP.out; have := HX.out; omega⟩, ⟨by rw [← HP2.out, List.append_assoc]; rfl⟩, hJ3, ⟨HB.out.trans hk3'⟩⟩
            case measure => simp only [intOf, Array.getD_eq_getD_getElem?, List.getElem?_toArray, List.getElem?_cons_succ, List.getElem?_cons_zero, Option.getD_some]; have := HAP.out; omega
          · gi_wp2
            refine bodyPost_ret (results_none rfl _ _ _) rfl ?_
            exact ⟨⟨_, rfl⟩, .inr ⟨pre ++ [j.toNat.toUInt8], ⟨_, by rw [← HP2.out, List.append_assoc]; rfl⟩, hJx3⟩⟩
theorem members_stops (n : Nat) (hn : 1 ≤ n) (Bn n₀ : Nat) (s0 s1 s2 s3 : Int) (hs0 : 0 ≤ s0 ∧ s0 < 18446744073709551616) (hs1 : 0 ≤ s1 ∧ s1 < 18446744073709551616) (hs2 : 0 ≤ s2 ∧ s2 < 18446744073709551616) (hs3 : 0 ≤ s3 ∧ s3 < 18446744073709551616)
    (w : World) (hBn : w.heap[Bn]? = some (.cells #[.int .u64 s0, .int .u64 s1, .int .u64 s2, .int .u64 s3] 24 (0, 0))) (hD : DB w) (hn₀ : 0 < n₀) :
    SeqStopsK Fence.wide n Tryd.prog 47 #[.pointer (some ⟨Bn, 0, none⟩)] (fun x : UInt8 => #[Value.int .u8 (x.toNat : Int)]) (Below n₀) (fun ys => ys = membL s0 s1 s2 s3) (fun pre => pre <+: membL s0 s1 s2 s3) (membL s0 s1 s2 s3).length w := fun l J Jx W hW _ _ hY h0 =>
  members1_in n hn l Bn n₀ s0 s1 s2 s3 hs0 hs1 hs2 hs3 J Jx hY W (blk_below hBn hW) (hD.below hD.2 hW) hn₀ h0
end Go.Proofs.YtcmipoicnonaeaaDoor.F
end
section
namespace Go.Proofs.YtcmipoicnonaeaaDoor.F
open Go.RowKit Go.Proofs.YtcmipoicnonaeaaDoorW.PrintWords Go.Proofs.YtcmipoicnonaeaaDoorW.PrintLast Go.Proofs.YtcmipoicnonaeaaDoorW.PrintMore
set_option linter.unusedVariables false
set_option linter.unusedSimpArgs false
set_option maxHeartbeats 1000000 in
theorem bset_Members_calls (s0 s1 s2 s3 : Int) (w : World) :
    Calls Tryd.prog 27 #[.agg #[.int .u64 s0, .int .u64 s1, .int .u64 s2, .int .u64 s3]] w fun e w' => e = .returned (.func (.func 47) #[] #[.pointer (some ⟨w.heap.size, 0, none⟩)]) ∧ w' = w.alloc (.cells #[.int .u64 s0, .int .u64 s1, .int .u64 s2, .int .u64 s3] 24 (0, 0)) := by
  go_enter Tryd.func27, Tryd.ntmps27
  go_wp2
  go_ret
  exact ⟨rfl, rfl⟩
end Go.Proofs.YtcmipoicnonaeaaDoor.F
end
section
namespace Go.Proofs.YtcmipoicnonaeaaDoor.F
open Go.RowKit Go.Proofs.YtcmipoicnonaeaaDoorW.PrintWords
def strings_IndexByte.f (a0 : ByteArray) (a1 : Int) : Option (Int) := some (Lib.indexByte a0.data.toList a1.toNat.toUInt8)
set_option maxHeartbeats 1000000 in
set_option maxRecDepth 100000 in
theorem stringslite_IndexByte_same (s : ByteArray) (c : Int) (w : World) :
    Calls Tryd.prog 68 #[.string s, .int .u8 c] w fun e w' => e = .returned (.int .i64 (Lib.indexByte s.data.toList c.toNat.toUInt8)) ∧ w' = w := by
  go_enter Tryd.func68, Tryd.ntmps68
  go_wp2
  rw [run_callFunc_extern Tryd.func79 (by kernel_rfl) (by kernel_rfl) (by kernel_rfl) (e := Extern.BytealgIndexByte.indexByte) (by kernel_rfl), Lib.run_indexByteString]
  simp only [Result.andThen]
  rw [Oper.upon_value]
  go_wp2
  go_ret
  exact ⟨rfl, rfl⟩
set_option maxHeartbeats 1000000 in
set_option maxRecDepth 100000 in
theorem strings_IndexByte_same (s : ByteArray) (c : Int) (w : World) :
    Calls Tryd.prog 49 #[.string s, .int .u8 c] w fun e w' => e = .returned (.int .i64 (Lib.indexByte s.data.toList c.toNat.toUInt8)) ∧ w' = w := by
  go_enter Tryd.func49, Tryd.ntmps49
  go_wp2_with (go_at_call 68; refine (stringslite_IndexByte_same _ _ _).mono ?_; rintro e w' ⟨rfl, rfl⟩)
  go_ret
  exact ⟨rfl, rfl⟩
theorem strings_IndexByte.calls (a0 : ByteArray) (a1 : Int) (r : Int) (w : World) (h : strings_IndexByte.f a0 a1 = some r) :
    Calls Tryd.prog 49 #[.string a0, .int .u8 a1] w fun e w' => e = .returned (.int .i64 r) ∧ Drawn0 w w' := by
  obtain rfl := Option.some.inj h
  refine (strings_IndexByte_same a0 a1 w).mono ?_
  rintro e w' ⟨rfl, rfl⟩
  exact ⟨rfl, Drawn0.refl _⟩
end Go.Proofs.YtcmipoicnonaeaaDoor.F
end
section
namespace Go.Proofs.YtcmipoicnonaeaaDoor.F
open Go.RowKit Go.Proofs.YtcmipoicnonaeaaDoorW.PrintWords Go.Proofs.YtcmipoicnonaeaaDoorW.PrintLast Go.Proofs.YtcmipoicnonaeaaDoorW.PrintMore
attribute [local go_sem] max2_int min2_int max_two min_two max_three min_three max_four min_four
set_option linter.unusedVariables false
set_option linter.unusedSimpArgs false
def bracket_special.f (a0 : Int) : Option (Bool) := (strings_IndexByte.f (⟨#[93, 94, 45, 91]⟩ : ByteArray) a0).bind fun t226 => (some (decide (t226 ≥ 0)))
set_option maxHeartbeats 8000000 in
set_option maxRecDepth 100000 in
theorem bracket_special.calls (a0 : Int) (r : Bool) (w : World) (h : bracket_special.f a0 = some r) :
    Calls Tryd.prog 28 #[.int .u8 a0] w fun e w' => e = .returned (.bool r) ∧ Drawn0 w w' := by
  have H : ((strings_IndexByte.f (⟨#[93, 94, 45, 91]⟩ : ByteArray) a0).bind fun t226 => (some (decide (t226 ≥ 0)))) = some r := h
  clear h
  replace H := Option.bind_eq_some_iff.mp H
  obtain ⟨t226, A20, H⟩ := H
  replace H : (some (decide (t226 ≥ 0))) = some r := H
  have A2 := Aside0.mk A20
  clear A20
  obtain rfl := Option.some.inj H
  go_enter Tryd.func28, Tryd.ntmps28
  go_wp2_with (first | ((with_reducible refine gate_callee (f := 49) rfl ?_); refine goesL_ (some 4) rfl rfl Tryd.func49 (by kernel_rfl) rfl #[.string (⟨#[93, 94, 45, 91]⟩ : ByteArray), .int .u8 a0] rfl (by (try simp only [List.map_toArray, List.map_cons, List.map_nil]); first | done | rfl | (simp only [List.length_drop, List.length_take]; rfl)) ?_; (with_reducible refine (strings_IndexByte.calls (⟨#[93, 94, 45, 91]⟩ : ByteArray) a0 t226 _ A2.out).mono ?_); rintro e w' ⟨rfl, ⟨nd, rfl⟩⟩; refine ⟨_, rfl, ?_⟩))
  go_ret
  exact ⟨by first | rfl | (simp only [wrap_wrap]; done) | (simp only [wrap_wrap]; rfl) | (simp; done) | (simp [*]; done), by repeat (first | exact Drawn0.refl _ | apply Drawn0.step)⟩
end Go.Proofs.YtcmipoicnonaeaaDoor.F
end
section
namespace Go.Proofs.YtcmipoicnonaeaaDoor.F
open Go.RowKit Go.Proofs.YtcmipoicnonaeaaDoorW.PrintWords Go.Proofs.YtcmipoicnonaeaaDoorW.PrintLast Go.Proofs.YtcmipoicnonaeaaDoorW.PrintMore
attribute [local go_sem] max2_int min2_int max_two min_two max_three min_three max_four min_four
set_option linter.unusedVariables false
set_option linter.unusedSimpArgs false
theorem eqA24 (d : Nat) (w : World) (x0 y0 : Int) (x1 y1 : Int) (x2 y2 : Int) (x3 y3 : Int) :
    (Op.equalIn (d + 2) 24 (.agg #[.int .u64 x0, .int .u64 x1, .int .u64 x2, .int .u64 x3]) (.agg #[.int .u64 y0, .int .u64 y1, .int .u64 y2, .int .u64 y3])).run Tryd.prog w = .ok (x0 == y0 && (x1 == y1 && (x2 == y2 && (x3 == y3)))) w := by
  have hs : ∀ w, (sizeOf 22).run Tryd.prog w = .ok 1 w := fun w => by go_simp
  have he : ∀ (x y : Int) (w : World), (Op.equalIn (d + 1) 22 (.int .u64 x) (.int .u64 y)).run Tryd.prog w = .ok (x == y) w := fun x y w => by go_simp
  have hp : ∀ (v0_ v1_ v2_ v3_ : Value) (w : World), (part 22 #[v0_, v1_, v2_, v3_] 0).run Tryd.prog w = .ok v0_ w ∧ (part 22 #[v0_, v1_, v2_, v3_] 1).run Tryd.prog w = .ok v1_ w ∧ (part 22 #[v0_, v1_, v2_, v3_] 2).run Tryd.prog w = .ok v2_ w ∧ (part 22 #[v0_, v1_, v2_, v3_] 3).run Tryd.prog w = .ok v3_ w := fun v0_ v1_ v2_ v3_ w => ⟨by go_simp, by go_simp, by go_simp, by go_simp⟩
  rw [Op.equalIn]
  simp only [Sem.run_bind, run_underlying Tryd.underlying24, Result.andThen_ok, hs]
  simp [List.range', List.forIn_cons, hp, he]
  by_cases h0 : x0 = y0 <;> by_cases h1 : x1 = y1 <;> by_cases h2 : x2 = y2 <;> by_cases h3 : x3 = y3 <;> simp [h0, h1, h2, h3]
end Go.Proofs.YtcmipoicnonaeaaDoor.F
end
