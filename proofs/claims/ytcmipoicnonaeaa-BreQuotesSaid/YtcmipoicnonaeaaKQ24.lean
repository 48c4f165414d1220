/- Texts of this claim, 24 of 28: F5. -/

import Derived.Test.YtcmipoicnonaeaaKQ4
import Derived.Test.YtcmipoicnonaeaaKQ21
import Derived.Test.YtcmipoicnonaeaaKQ22
import Derived.Test.YtcmipoicnonaeaaKQ23
section
namespace Go.Proofs.Ytcmipoicnonaeaa.F
open Go.RowKit Go.Proofs.YtcmipoicnonaeaaW.PrintWords Go.Proofs.YtcmipoicnonaeaaW.PrintLast Go.Proofs.YtcmipoicnonaeaaW.PrintMore
attribute [local go_sem] qbx qbv qcc qca qbl qbk qbw qbu
set_option linter.unusedVariables false
set_option linter.unusedSimpArgs false
attribute [local go_sem high] eqA24
mutual
def qaf.j0 : Nat → ByteArray → Option (Bool)
 | 0, _ => none
 | k + 1, x0 => (qd2.f k x0).bind fun t312 => ((qce.f k t312).bind fun bt313 => (if bt313.2.2.2.2.2.2.2.2.2.1 = 0 then (if bt313.1 = 0 then (qaf.j1 k x0 ((bt313.2.2.2.2.2.2.2.2.1.length : Int) != (x0.size : Int)) bt313.1 bt313.2.1 bt313.2.2.1 bt313.2.2.2.1 bt313.2.2.2.2.1 bt313.2.2.2.2.2.1 bt313.2.2.2.2.2.2.1 bt313.2.2.2.2.2.2.2.1 bt313.2.2.2.2.2.2.2.2.1) else (qaf.j1 k x0 true bt313.1 bt313.2.1 bt313.2.2.1 bt313.2.2.2.1 bt313.2.2.2.2.1 bt313.2.2.2.2.2.1 bt313.2.2.2.2.2.2.1 bt313.2.2.2.2.2.2.2.1 bt313.2.2.2.2.2.2.2.2.1)) else (qaf.j1 k x0 true bt313.1 bt313.2.1 bt313.2.2.1 bt313.2.2.2.1 bt313.2.2.2.2.1 bt313.2.2.2.2.2.1 bt313.2.2.2.2.2.2.1 bt313.2.2.2.2.2.2.2.1 bt313.2.2.2.2.2.2.2.2.1)))
def qaf.j1 : Nat → ByteArray → Bool → Int → Int → Int → Int → Int → Int → Int → Int → List (S27) → Option (Bool)
 | 0, _, _, _, _, _, _, _, _, _, _, _ => none
 | k + 1, x0, x35, x327000, x327001, x327002, x327003, x327004, x327005, x327006, x327007, x327008 => if x35 = true then (some false) else (qaf.l0 k x0 x327008 (x327008.length : Int) 0)
def qaf.l0 : Nat → ByteArray → List (S27) → Int → Int → Option (Bool)
 | 0, _, _, _, _ => none
 | k + 1, x0, x37, x38, x39 => if x39 < x38 then (if 0 ≤ x39 then (if x39 < (x37.length : Int) then (if ((qae x37 x39).f0) = 1 then (if x39 ≤ (wrap64 (x39 + 1)) then (if (wrap64 (x39 + 1)) ≤ (x0.size : Int) then ((qb2.f k (x0.extract (x39 : Int).toNat ((wrap64 (x39 + 1)) : Int).toNat)).bind fun bt330 => (if (!(((qae x37 x39).f1.f0) == bt330.1) || (!(((qae x37 x39).f1.f1) == bt330.2.1) || (!(((qae x37 x39).f1.f2) == bt330.2.2.1) || (!(((qae x37 x39).f1.f3) == bt330.2.2.2))))) = true then (some false) else (qaf.l0 k x0 x37 x38 (wrap64 (x39 + 1))))) else (none)) else (none)) else (some false)) else (none)) else (none)) else (some true)
end
def qaf.f (k : Nat) (a0 : ByteArray) : Option (Bool) := (qbr.f k).bind fun t311 => (if t311 = true then (if (a0.size : Int) > 256 then (if 0 ≤ 256 then (if 256 ≤ (a0.size : Int) then (qaf.j0 k (a0.extract 0 256)) else (none)) else (none)) else (qaf.j0 k a0)) else (some false))
def qaf.T11 : Bool × List (List Nat × List Nat) := (true, [([], []), ([0], [0]), ([1], [1]), ([2], [2]), ([3], [3]), ([4, 3], [3, 4]), ([3], [3]), ([3], [3]), ([3], [3]), ([8, 3], [3, 8]), ([6, 7, 9, 3], [3, 6, 7, 9]), ([10, 3, 3], [3, 10]), ([5, 11, 3], [3, 5, 11]), ([3, 12], [3, 12])])
def qaf.B11 : List Nat := [0, 1, 3, 7, 15, 31, 15, 15, 15, 271, 975, 1999, 4095, 8191]
theorem qaf.tab11 : rtab .any (opsOf Try.f5 11) = qaf.T11 := by kernel_rfl
theorem qaf.bits11 : qcy qaf.T11.2 qaf.B11 = true := by kernel_rfl
set_option maxHeartbeats 8000000 in
set_option maxRecDepth 100000 in
theorem qaf.calls (k : Nat) (a0 : ByteArray) (r : Bool) (w : World) (hMD : ML w) (h : qaf.f k a0 = some r) (hr : r = true := by rfl) :
  Calls Try.prog 5 #[.string a0] w fun e w' => e = .returned (.bool r) ∧ Below w.heap.size w w' := by
 subst hr
 have HMD := qa0.mk hMD
 clear hMD
 have hu27 := Try.underlying27
 have hu30 := Try.underlying30
 have hu24 := Try.underlying24
 have HB := qa0.mk (Below.refl w.heap.size w)
 have H : ((qbr.f k).bind fun t311 => (if t311 = true then (if (a0.size : Int) > 256 then (if 0 ≤ 256 then (if 256 ≤ (a0.size : Int) then (qaf.j0 k (a0.extract 0 256)) else (none)) else (none)) else (qaf.j0 k a0)) else (some false))) = some true := h
 clear h
 replace H := Option.bind_eq_some_iff.mp H
 obtain ⟨t311, A20, H⟩ := H
 replace H : (if t311 = true then (if (a0.size : Int) > 256 then (if 0 ≤ 256 then (if 256 ≤ (a0.size : Int) then (qaf.j0 k (a0.extract 0 256)) else (none)) else (none)) else (qaf.j0 k a0)) else (some false)) = some true := H
 have A2 := qa0.mk A20
 clear A20
 by_cases c3 : t311 = true
 ·subst c3
  have H1 : (if (a0.size : Int) > 256 then (if 0 ≤ 256 then (if 256 ≤ (a0.size : Int) then (qaf.j0 k (a0.extract 0 256)) else (none)) else (none)) else (qaf.j0 k a0)) = some true := by rw [if_pos rfl] at H; exact H
  clear H
  have H := H1
  clear H1
  have HC4 := qa0.mk H
  clear H
  go_enter Try.func5, Try.ntmps5
  go_upto_if 11 with (first | ((with_reducible refine qbd (f := 14) rfl ?_); refine qcj (some 7) rfl rfl Try.func14 (by kernel_rfl) rfl #[] rfl (by (try simp only [List.map_toArray, List.map_cons, List.map_nil]); first | done | rfl | (simp only [List.length_drop, List.length_take]; rfl)) ?_; (with_reducible refine (qbr.calls k  true _ ?hmd A2.out).mono ?_); (case hmd => exact (HMD.out.below (by repeat (first | (with_reducible first | exact HB.out | apply qa6 | apply qa7 | apply qa9) | exact HB.out)))); rintro e w5 ⟨rfl, hb⟩; refine ⟨_, rfl, ?_⟩; have n0_ := qa0.mk (qat (by repeat (first | (with_reducible first | exact HB.out | apply qa6 | apply qa7 | apply qa9) | exact HB.out)) hb); clear HB; have HB := n0_; clear n0_; (try clear hb); (try clear hb2); (try clear hk); (try clear hi)))
  (try simp only [Act.put, List.setIfInBounds_toArray, List.set_cons_zero, List.set_cons_succ])
  go_cut [0] (fun v0 wc => ∃ (kq : Nat) (x0_3 : ByteArray), v0 = .string x0_3 ∧ qa0 (qaf.j0 kq x0_3 = some true) ∧ qa0 (kq ≤ k) ∧ qa0 (Below w.heap.size w wc))
  case first =>
   have H := HC4.out
   clear HC4
   by_cases c6 : (a0.size : Int) > 256
   ·rw [if_pos c6] at H
    have c6b0 : decide (256 < (a0.size : Int)) = true := decide_eq_true c6
    have c6b1 : decide (256 < a0.size) = true := decide_eq_true (by omega)
    clear c6
    (first | rw [c6b0] | (simp only [qbe, qcg]; rw [c6b0]) | skip)
    by_cases c7 : 0 ≤ 256
    ·rw [if_pos c7] at H
     have c7b0 := eq_true c7
     have c7b1 : decide (0 ≤ 256) = true := decide_eq_true c7
     clear c7
     by_cases c8 : 256 ≤ (a0.size : Int)
     ·rw [if_pos c8] at H
      have c8b0 := eq_true c8
      have c8b1 : decide (256 ≤ (a0.size : Int)) = true := decide_eq_true c8
      clear c8
      have H' := qa0.mk H
      clear H
      go_wp2
      go_meet
      case rel => exact ⟨_, (a0.extract 0 256), (by first | rfl | (simp; done) | (simp [*]; done) | (exfalso; simp only [decide_eq_true_eq] at *; omega)), H', ⟨by first | omega | exact Nat.le_refl _⟩, ⟨by repeat (first | (with_reducible first | exact HB.out | apply qa6 | apply qa7 | apply qa9) | exact HB.out)⟩⟩
     ·rw [if_neg c8] at H
      exact absurd H (by simp)
    ·rw [if_neg c7] at H
     exact absurd H (by simp)
   ·rw [if_neg c6] at H
    have c6b0 : decide (256 < (a0.size : Int)) = false := decide_eq_false c6
    have c6b1 : decide (256 < a0.size) = false := decide_eq_false (by omega)
    clear c6
    (first | rw [c6b0] | (simp only [qbe, qcg]; rw [c6b0]) | skip)
    have H' := qa0.mk H
    clear H
    go_wp2
    go_meet
    case rel => exact ⟨_, (a0), (by first | rfl | (simp; done) | (simp [*]; done) | (exfalso; simp only [decide_eq_true_eq] at *; omega)), H', ⟨by first | omega | exact Nat.le_refl _⟩, ⟨by repeat (first | (with_reducible first | exact HB.out | apply qa6 | apply qa7 | apply qa9) | exact HB.out)⟩⟩
  case rest =>
   clear HC4
   try clear c1
   try clear p2
   try clear c3
   try clear c5
   try clear c6
   try clear c6b0
   try clear c6b1
   try clear c7
   try clear c7b0
   try clear c7b1
   try clear c8
   try clear c8b0
   try clear c8b1
   obtain ⟨kq, x0_3, rfl, HA, HJ3, HB⟩ := hcut
   cases kq with
   | zero => exact absurd HA.out (by simp [qaf.j0])
   | succ kj3 =>
    have H := HA.out
    clear HA
    simp only [qaf.j0] at H
    replace H := Option.bind_eq_some_iff.mp H
    obtain ⟨t312, A90, H⟩ := H
    replace H : ((qce.f kj3 t312).bind fun bt313 => (if bt313.2.2.2.2.2.2.2.2.2.1 = 0 then (if bt313.1 = 0 then (qaf.j1 kj3 x0_3 ((bt313.2.2.2.2.2.2.2.2.1.length : Int) != (x0_3.size : Int)) bt313.1 bt313.2.1 bt313.2.2.1 bt313.2.2.2.1 bt313.2.2.2.2.1 bt313.2.2.2.2.2.1 bt313.2.2.2.2.2.2.1 bt313.2.2.2.2.2.2.2.1 bt313.2.2.2.2.2.2.2.2.1) else (qaf.j1 kj3 x0_3 true bt313.1 bt313.2.1 bt313.2.2.1 bt313.2.2.2.1 bt313.2.2.2.2.1 bt313.2.2.2.2.2.1 bt313.2.2.2.2.2.2.1 bt313.2.2.2.2.2.2.2.1 bt313.2.2.2.2.2.2.2.2.1)) else (qaf.j1 kj3 x0_3 true bt313.1 bt313.2.1 bt313.2.2.1 bt313.2.2.2.1 bt313.2.2.2.2.1 bt313.2.2.2.2.2.1 bt313.2.2.2.2.2.2.1 bt313.2.2.2.2.2.2.2.1 bt313.2.2.2.2.2.2.2.2.1))) = some true := H
    have A9 := qa0.mk A90
    clear A90
    replace H := Option.bind_eq_some_iff.mp H
    obtain ⟨⟨t313, t314, t315, t316, t317, t318, t319, t320, t321, t324, t325⟩, A100, H⟩ := H
    replace H : (if t324 = 0 then (if t313 = 0 then (qaf.j1 kj3 x0_3 ((t321.length : Int) != (x0_3.size : Int)) t313 t314 t315 t316 t317 t318 t319 t320 t321) else (qaf.j1 kj3 x0_3 true t313 t314 t315 t316 t317 t318 t319 t320 t321)) else (qaf.j1 kj3 x0_3 true t313 t314 t315 t316 t317 t318 t319 t320 t321)) = some true := H
    have A10 := qa0.mk A100
    clear A100
    have HC11 := qa0.mk H
    clear H
    go_upto_region 6 with (first | ((with_reducible refine qbd (f := 18) rfl ?_); refine qcj (some 16) rfl rfl Try.func18 (by kernel_rfl) rfl #[.string x0_3] rfl (by (try simp only [List.map_toArray, List.map_cons, List.map_nil]); first | done | rfl | (simp only [List.length_drop, List.length_take]; rfl)) ?_; (with_reducible refine (qd2.calls kj3 x0_3 t312 _ A9.out).mono ?_); rintro e w12 ⟨rfl, hb⟩; refine ⟨_, rfl, ?_⟩; have n0_ := qa0.mk (qat (by repeat (first | (with_reducible first | exact HB.out | apply qa6 | apply qa7 | apply qa9) | exact HB.out)) hb); clear HB; have HB := n0_; clear n0_; (try clear hb); (try clear hb2); (try clear hk); (try clear hi)) | ((with_reducible refine qbd (f := 12) rfl ?_); refine qcj (some 17) rfl rfl Try.func12 (by kernel_rfl) rfl #[.string t312] rfl (by (try simp only [List.map_toArray, List.map_cons, List.map_nil]); first | done | rfl | (simp only [List.length_drop, List.length_take]; rfl)) ?_; (with_reducible refine (qce.calls kj3 t312 t313 t314 t315 t316 t317 t318 t319 t320 t321 t324 t325 _ ?hmd A10.out).mono ?_); (case hmd => exact (HMD.out.below (by repeat (first | (with_reducible first | exact HB.out | apply qa6 | apply qa7 | apply qa9) | exact HB.out)))); rintro e w13 ⟨v322, rfl, ho0, hb⟩; refine ⟨_, rfl, ?_⟩; have n0_ := qa0.mk (Kd.qfa ho0 (qar (by repeat (first | (with_reducible first | exact HB.out | apply qa6 | apply qa7 | apply qa9) | exact HB.out)))); have n1_ := qa0.mk (qat (by repeat (first | (with_reducible first | exact HB.out | apply qa6 | apply qa7 | apply qa9) | exact HB.out)) hb); clear HB; have HO323 := n0_; have HB := n1_; clear n0_ n1_; (try clear hb); (try clear hb2); (try clear hk); (try clear hi); (try clear ho0)) | ((with_reducible refine qba (N := 3) rfl ?_); (try (refine qcp (by rfl) ?_; dsimp only)); refine qbb ?hg (N := 3) ?hd (cs := #[.int .i64 0, .int .u64 0, .int .u64 0, .int .u64 0, .int .u64 0, .int .i64 0, .int .i64 0, .int .i64 0, .slice none 0 0]) (t := 27) ?hr ?_; (case hd => rfl); (case hg => rfl); (case hr => first | (go_simp; done) | (go_simp; rfl)); intro gb326 hg w14 hbox hb; have n0_ := qa0.mk (Kd.qbi (Kd.qei (by (with_reducible repeat (first | apply Kd.qbp | apply Kd.qbq | apply Kd.qbo)); exact HO323.out) gb326 (Nat.le_of_eq hg.symm)) hb); have n1_ := qa0.mk (qat (by repeat (first | (with_reducible first | exact HB.out | apply qa6 | apply qa7 | apply qa9) | exact HB.out)) hb); have n2_ := qa0.mk (hbox); have n3_ := qa0.mk ((by rw [hg]; exact (qar (by repeat (first | (with_reducible first | exact HB.out | apply qa6 | apply qa7 | apply qa9) | exact HB.out))) : w.heap.size ≤ gb326)); have n4_ := qa0.mk ((by rw [hg]; exact (qar (by repeat (first | (with_reducible first | exact HB.out | apply qa6 | apply qa7 | apply qa9) | exact HB.out))) : w.heap.size ≤ gb326)); clear HO323; clear HB; have HO323 := n0_; have HB := n1_; have BK326 := n2_; have GW326 := n3_; have GE326 := n4_; clear n0_ n1_ n2_ n3_ n4_; clear hb hbox hg) | ((with_reducible refine qba (N := 4) rfl ?_); (try (refine qcp (by rfl) ?_; dsimp only)); refine qbb ?hg (N := 4) ?hd (cs := #[.int .i64 0, .int .i64 0]) (t := 30) ?hr ?_; (case hd => rfl); (case hg => rfl); (case hr => first | (go_simp; done) | (go_simp; rfl)); intro gb327 hg w15 hbox hb; have n0_ := qa0.mk (Kd.qbi (by (with_reducible repeat (first | apply Kd.qbp | apply Kd.qbq | apply Kd.qbo)); exact HO323.out) hb); have n1_ := qa0.mk (qai (g := gb326) (o := .cells #[.int .i64 0, .int .u64 0, .int .u64 0, .int .u64 0, .int .u64 0, .int .i64 0, .int .i64 0, .int .i64 0, .slice none 0 0] 27 (0, 0)) (by (with_reducible repeat (first | refine qa4 ?_ _ | refine qa5 ?_ | refine qa3 ?_ _)); exact BK326.out) hb); have n2_ := qa0.mk (qat (by repeat (first | (with_reducible first | exact HB.out | apply qa6 | apply qa7 | apply qa9 | refine qa8 ?_ GE326.out) | exact HB.out)) hb); have n3_ := qa0.mk (hbox); have n4_ := qa0.mk ((by rw [hg]; exact (qar (by repeat (first | (with_reducible first | exact HB.out | apply qa6 | apply qa7 | apply qa9 | refine qa8 ?_ GE326.out) | exact HB.out))) : w.heap.size ≤ gb327)); have n5_ := qa0.mk ((by rw [hg]; exact (qar (by repeat (first | (with_reducible first | exact HB.out | apply qa6 | apply qa7 | apply qa9 | refine qa8 ?_ GE326.out) | exact HB.out))) : w.heap.size ≤ gb327)); have n6_ := qa0.mk ((by rw [hg]; exact Nat.ne_of_lt (qam (g := gb326) (o := .cells #[.int .i64 0, .int .u64 0, .int .u64 0, .int .u64 0, .int .u64 0, .int .i64 0, .int .i64 0, .int .i64 0, .slice none 0 0] 27 (0, 0)) (by (with_reducible repeat (first | refine qa4 ?_ _ | refine qa5 ?_ | refine qa3 ?_ _)); exact BK326.out)) : gb326 ≠ gb327)); have n7_ := qa0.mk ((by rw [hg]; exact Nat.ne_of_gt (qam (g := gb326) (o := .cells #[.int .i64 0, .int .u64 0, .int .u64 0, .int .u64 0, .int .u64 0, .int .i64 0, .int .i64 0, .int .i64 0, .slice none 0 0] 27 (0, 0)) (by (with_reducible repeat (first | refine qa4 ?_ _ | refine qa5 ?_ | refine qa3 ?_ _)); exact BK326.out)) : gb327 ≠ gb326)); clear HO323; clear BK326; clear HB; have HO323 := n0_; have BK326 := n1_; have HB := n2_; have BK327 := n3_; have GW327 := n4_; have GE327 := n5_; have NB326_327 := n6_; have NB327_326 := n7_; clear n0_ n1_ n2_ n3_ n4_ n5_ n6_ n7_; clear hb hbox hg; have hnb16 := NB326_327.out; have hnc16 := NB327_326.out; have hcz17_0 : w15.cell? ⟨gb326, 0, none⟩ = some (.int .i64 0) := (qa2 BK326.out 0).trans rfl; have hcz17_1 : w15.cell? ⟨gb326, 1, none⟩ = some (.int .u64 0) := (qa2 BK326.out 1).trans rfl; have hcz17_2 : w15.cell? ⟨gb326, 2, none⟩ = some (.int .u64 0) := (qa2 BK326.out 2).trans rfl; have hcz17_3 : w15.cell? ⟨gb326, 3, none⟩ = some (.int .u64 0) := (qa2 BK326.out 3).trans rfl; have hcz17_4 : w15.cell? ⟨gb326, 4, none⟩ = some (.int .u64 0) := (qa2 BK326.out 4).trans rfl; have hcz17_5 : w15.cell? ⟨gb326, 5, none⟩ = some (.int .i64 0) := (qa2 BK326.out 5).trans rfl; have hcz17_6 : w15.cell? ⟨gb326, 6, none⟩ = some (.int .i64 0) := (qa2 BK326.out 6).trans rfl; have hcz17_7 : w15.cell? ⟨gb326, 7, none⟩ = some (.int .i64 0) := (qa2 BK326.out 7).trans rfl; have hcz17_8 : w15.cell? ⟨gb326, 8, none⟩ = some (.slice none 0 0) := (qa2 BK326.out 8).trans rfl; have hfz17_0 := qa1 BK326.out 0; have hfz17_1 := qa1 BK326.out 1; have hfz17_2 := qa1 BK326.out 2; have hfz17_3 := qa1 BK326.out 3; have hfz17_4 := qa1 BK326.out 4; have hfz17_5 := qa1 BK326.out 5; have hfz17_6 := qa1 BK326.out 6; have hfz17_7 := qa1 BK326.out 7; have hfz17_8 := qa1 BK326.out 8; obtain ⟨Ao18, co18, eo18⟩ := Kd.qdd HO323.out; subst eo18; have hcz19_0 : w15.cell? ⟨gb327, 0, none⟩ = some (.int .i64 0) := (qa2 BK327.out 0).trans rfl; have hcz19_1 : w15.cell? ⟨gb327, 1, none⟩ = some (.int .i64 0) := (qa2 BK327.out 1).trans rfl; have hfz19_0 := qa1 BK327.out 0; have hfz19_1 := qa1 BK327.out 1))
    (try simp only [Act.put, List.setIfInBounds_toArray, List.set_cons_zero, List.set_cons_succ])
    go_cut [35] (fun v35 wc => ∃ (kq : Nat) (x35_10 : Bool), v35 = .bool x35_10 ∧ qa0 (qaf.j1 kq x0_3 x35_10 t313 t314 t315 t316 t317 t318 t319 t320 t321 = some true) ∧ qa0 (kq ≤ kj3) ∧ qa0 (Kd.R k27 27 wc w.heap.size (fun k_ => k_ ≠ gb326) (.slice Ao18 t321.length co18) t321) ∧ qa0 (wc.heap[gb326]? = some (.cells #[.int .i64 t313, .int .u64 t314, .int .u64 t315, .int .u64 t316, .int .u64 t317, .int .i64 t318, .int .i64 t319, .int .i64 t320, (.slice Ao18 t321.length co18)] 27 (0, 0))) ∧ qa0 (wc.heap[gb327]? = some (.cells #[.int .i64 t324, .int .i64 t325] 30 (0, 0))) ∧ qa0 (Below w.heap.size w wc))
    case first =>
     have H := HC11.out
     clear HC11
     by_cases c20 : t324 = 0
     ·rw [if_pos c20] at H
      have c20b0 : (t324 == 0) = true := beq_iff_eq.mpr c20
      have c20b1 : (t324 != 0) = false := bne_eq_false_iff_eq.mpr c20
      clear c20
      (first | rw [c20b0] | (simp only [qbe, qcg]; rw [c20b0]) | skip)
      by_cases c21 : t313 = 0
      ·rw [if_pos c21] at H
       have c21b0 : (t313 == 0) = true := beq_iff_eq.mpr c21
       have c21b1 : (t313 != 0) = false := bne_eq_false_iff_eq.mpr c21
       clear c21
       have H' := qa0.mk H
       clear H
       have hnb22 := NB327_326.out
       have hnc22 := NB326_327.out
       have hcz23_0 : w15.cell? ⟨gb327, 0, none⟩ = some (.int .i64 0) := (qa2 BK327.out 0).trans rfl
       have hcz23_1 : w15.cell? ⟨gb327, 1, none⟩ = some (.int .i64 0) := (qa2 BK327.out 1).trans rfl
       have hfz23_0 := qa1 BK327.out 0
       have hfz23_1 := qa1 BK327.out 1
       have hcz24_0 : w15.cell? ⟨gb326, 0, none⟩ = some (.int .i64 0) := (qa2 BK326.out 0).trans rfl
       have hcz24_1 : w15.cell? ⟨gb326, 1, none⟩ = some (.int .u64 0) := (qa2 BK326.out 1).trans rfl
       have hcz24_2 : w15.cell? ⟨gb326, 2, none⟩ = some (.int .u64 0) := (qa2 BK326.out 2).trans rfl
       have hcz24_3 : w15.cell? ⟨gb326, 3, none⟩ = some (.int .u64 0) := (qa2 BK326.out 3).trans rfl
       have hcz24_4 : w15.cell? ⟨gb326, 4, none⟩ = some (.int .u64 0) := (qa2 BK326.out 4).trans rfl
       have hcz24_5 : w15.cell? ⟨gb326, 5, none⟩ = some (.int .i64 0) := (qa2 BK326.out 5).trans rfl
       have hcz24_6 : w15.cell? ⟨gb326, 6, none⟩ = some (.int .i64 0) := (qa2 BK326.out 6).trans rfl
       have hcz24_7 : w15.cell? ⟨gb326, 7, none⟩ = some (.int .i64 0) := (qa2 BK326.out 7).trans rfl
       have hcz24_8 : w15.cell? ⟨gb326, 8, none⟩ = some (.slice none 0 0) := (qa2 BK326.out 8).trans rfl
       have hfz24_0 := qa1 BK326.out 0
       have hfz24_1 := qa1 BK326.out 1
       have hfz24_2 := qa1 BK326.out 2
       have hfz24_3 := qa1 BK326.out 3
       have hfz24_4 := qa1 BK326.out 4
       have hfz24_5 := qa1 BK326.out 5
       have hfz24_6 := qa1 BK326.out 6
       have hfz24_7 := qa1 BK326.out 7
       have hfz24_8 := qa1 BK326.out 8
       go_wp2
       go_meet
       case rel => exact ⟨_, (((t321.length : Int) != (x0_3.size : Int))), (by first | rfl | (simp; done) | (simp [*]; done) | (exfalso; simp only [decide_eq_true_eq] at *; omega)), H', ⟨by have := HJ3.out; first | omega | exact Nat.le_refl _⟩, ⟨by (with_reducible repeat (first | apply Kd.qbp | apply Kd.qbq | apply Kd.qbo)); exact Kd.qbg (Kd.qay (p := ⟨gb327, 1, none⟩) (Kd.qay (p := ⟨gb327, 0, none⟩) (Kd.qay (p := ⟨gb326, 8, none⟩) (Kd.qay (p := ⟨gb326, 7, none⟩) (Kd.qay (p := ⟨gb326, 6, none⟩) (Kd.qay (p := ⟨gb326, 5, none⟩) (Kd.qay (p := ⟨gb326, 4, none⟩) (Kd.qay (p := ⟨gb326, 3, none⟩) (Kd.qay (p := ⟨gb326, 2, none⟩) (Kd.qay (p := ⟨gb326, 1, none⟩) (Kd.qay (p := ⟨gb326, 0, none⟩) (Kd.qdx (Kd.qbg HO323.out (fun k_ hk => (⟨hk, hk.2⟩ : _ ∧ k_ ≠ gb326))) BK327.out (by decide)) (fun _ hk => hk.1.2) (.int .i64 t313)) (fun _ hk => hk.1.2) (.int .u64 t314)) (fun _ hk => hk.1.2) (.int .u64 t315)) (fun _ hk => hk.1.2) (.int .u64 t316)) (fun _ hk => hk.1.2) (.int .u64 t317)) (fun _ hk => hk.1.2) (.int .i64 t318)) (fun _ hk => hk.1.2) (.int .i64 t319)) (fun _ hk => hk.1.2) (.int .i64 t320)) (fun _ hk => hk.1.2) (.slice Ao18 t321.length co18)) (fun _ hk => hk.2) (.int .i64 t324)) (fun _ hk => hk.2) (.int .i64 t325)) (fun _ hk => hk.1.1.2)⟩, ⟨by (with_reducible repeat (first | refine qa4 ?_ _ | refine qa5 ?_ | refine qa3 ?_ _)); refine qah ?_ NB326_327.out _; (with_reducible repeat (first | refine qa4 ?_ _ | refine qa5 ?_ | refine qa3 ?_ _)); refine qah ?_ NB326_327.out _; (with_reducible repeat (first | refine qa4 ?_ _ | refine qa5 ?_ | refine qa3 ?_ _)); refine qaa (cs := #[.int .i64 t313, .int .u64 t314, .int .u64 t315, .int .u64 t316, .int .u64 t317, .int .i64 t318, .int .i64 t319, .int .i64 t320, .slice none 0 0]) ?_ 8 _ rfl; (with_reducible repeat (first | refine qa4 ?_ _ | refine qa5 ?_ | refine qa3 ?_ _)); refine qaa (cs := #[.int .i64 t313, .int .u64 t314, .int .u64 t315, .int .u64 t316, .int .u64 t317, .int .i64 t318, .int .i64 t319, .int .i64 0, .slice none 0 0]) ?_ 7 _ rfl; (with_reducible repeat (first | refine qa4 ?_ _ | refine qa5 ?_ | refine qa3 ?_ _)); refine qaa (cs := #[.int .i64 t313, .int .u64 t314, .int .u64 t315, .int .u64 t316, .int .u64 t317, .int .i64 t318, .int .i64 0, .int .i64 0, .slice none 0 0]) ?_ 6 _ rfl; (with_reducible repeat (first | refine qa4 ?_ _ | refine qa5 ?_ | refine qa3 ?_ _)); refine qaa (cs := #[.int .i64 t313, .int .u64 t314, .int .u64 t315, .int .u64 t316, .int .u64 t317, .int .i64 0, .int .i64 0, .int .i64 0, .slice none 0 0]) ?_ 5 _ rfl; (with_reducible repeat (first | refine qa4 ?_ _ | refine qa5 ?_ | refine qa3 ?_ _)); refine qaa (cs := #[.int .i64 t313, .int .u64 t314, .int .u64 t315, .int .u64 t316, .int .u64 0, .int .i64 0, .int .i64 0, .int .i64 0, .slice none 0 0]) ?_ 4 _ rfl; (with_reducible repeat (first | refine qa4 ?_ _ | refine qa5 ?_ | refine qa3 ?_ _)); refine qaa (cs := #[.int .i64 t313, .int .u64 t314, .int .u64 t315, .int .u64 0, .int .u64 0, .int .i64 0, .int .i64 0, .int .i64 0, .slice none 0 0]) ?_ 3 _ rfl; (with_reducible repeat (first | refine qa4 ?_ _ | refine qa5 ?_ | refine qa3 ?_ _)); refine qaa (cs := #[.int .i64 t313, .int .u64 t314, .int .u64 0, .int .u64 0, .int .u64 0, .int .i64 0, .int .i64 0, .int .i64 0, .slice none 0 0]) ?_ 2 _ rfl; (with_reducible repeat (first | refine qa4 ?_ _ | refine qa5 ?_ | refine qa3 ?_ _)); refine qaa (cs := #[.int .i64 t313, .int .u64 0, .int .u64 0, .int .u64 0, .int .u64 0, .int .i64 0, .int .i64 0, .int .i64 0, .slice none 0 0]) ?_ 1 _ rfl; (with_reducible repeat (first | refine qa4 ?_ _ | refine qa5 ?_ | refine qa3 ?_ _)); refine qaa (cs := #[.int .i64 0, .int .u64 0, .int .u64 0, .int .u64 0, .int .u64 0, .int .i64 0, .int .i64 0, .int .i64 0, .slice none 0 0]) ?_ 0 _ rfl; (with_reducible repeat (first | refine qa4 ?_ _ | refine qa5 ?_ | refine qa3 ?_ _)); exact BK326.out⟩, ⟨by (with_reducible repeat (first | refine qa4 ?_ _ | refine qa5 ?_ | refine qa3 ?_ _)); refine qaa (cs := #[.int .i64 t324, .int .i64 0]) ?_ 1 _ rfl; (with_reducible repeat (first | refine qa4 ?_ _ | refine qa5 ?_ | refine qa3 ?_ _)); refine qaa (cs := #[.int .i64 0, .int .i64 0]) ?_ 0 _ rfl; (with_reducible repeat (first | refine qa4 ?_ _ | refine qa5 ?_ | refine qa3 ?_ _)); refine qah ?_ NB327_326.out _; (with_reducible repeat (first | refine qa4 ?_ _ | refine qa5 ?_ | refine qa3 ?_ _)); refine qah ?_ NB327_326.out _; (with_reducible repeat (first | refine qa4 ?_ _ | refine qa5 ?_ | refine qa3 ?_ _)); refine qah ?_ NB327_326.out _; (with_reducible repeat (first | refine qa4 ?_ _ | refine qa5 ?_ | refine qa3 ?_ _)); refine qah ?_ NB327_326.out _; (with_reducible repeat (first | refine qa4 ?_ _ | refine qa5 ?_ | refine qa3 ?_ _)); refine qah ?_ NB327_326.out _; (with_reducible repeat (first | refine qa4 ?_ _ | refine qa5 ?_ | refine qa3 ?_ _)); refine qah ?_ NB327_326.out _; (with_reducible repeat (first | refine qa4 ?_ _ | refine qa5 ?_ | refine qa3 ?_ _)); refine qah ?_ NB327_326.out _; (with_reducible repeat (first | refine qa4 ?_ _ | refine qa5 ?_ | refine qa3 ?_ _)); refine qah ?_ NB327_326.out _; (with_reducible repeat (first | refine qa4 ?_ _ | refine qa5 ?_ | refine qa3 ?_ _)); refine qah ?_ NB327_326.out _; (with_reducible repeat (first | refine qa4 ?_ _ | refine qa5 ?_ | refine qa3 ?_ _)); exact BK327.out⟩, ⟨by repeat (first | (with_reducible first | exact HB.out | apply qa6 | apply qa7 | apply qa9 | refine qa8 ?_ GE326.out | refine qa8 ?_ GE327.out) | exact HB.out)⟩⟩
      ·rw [if_neg c21] at H
       have c21b0 : (t313 == 0) = false := beq_eq_false_iff_ne.mpr c21
       have c21b1 : (t313 != 0) = true := bne_iff_ne.mpr c21
       have H' := qa0.mk H
       clear H
       have hnb25 := NB327_326.out
       have hnc25 := NB326_327.out
       have hcz26_0 : w15.cell? ⟨gb327, 0, none⟩ = some (.int .i64 0) := (qa2 BK327.out 0).trans rfl
       have hcz26_1 : w15.cell? ⟨gb327, 1, none⟩ = some (.int .i64 0) := (qa2 BK327.out 1).trans rfl
       have hfz26_0 := qa1 BK327.out 0
       have hfz26_1 := qa1 BK327.out 1
       have hcz27_0 : w15.cell? ⟨gb326, 0, none⟩ = some (.int .i64 0) := (qa2 BK326.out 0).trans rfl
       have hcz27_1 : w15.cell? ⟨gb326, 1, none⟩ = some (.int .u64 0) := (qa2 BK326.out 1).trans rfl
       have hcz27_2 : w15.cell? ⟨gb326, 2, none⟩ = some (.int .u64 0) := (qa2 BK326.out 2).trans rfl
       have hcz27_3 : w15.cell? ⟨gb326, 3, none⟩ = some (.int .u64 0) := (qa2 BK326.out 3).trans rfl
       have hcz27_4 : w15.cell? ⟨gb326, 4, none⟩ = some (.int .u64 0) := (qa2 BK326.out 4).trans rfl
       have hcz27_5 : w15.cell? ⟨gb326, 5, none⟩ = some (.int .i64 0) := (qa2 BK326.out 5).trans rfl
       have hcz27_6 : w15.cell? ⟨gb326, 6, none⟩ = some (.int .i64 0) := (qa2 BK326.out 6).trans rfl
       have hcz27_7 : w15.cell? ⟨gb326, 7, none⟩ = some (.int .i64 0) := (qa2 BK326.out 7).trans rfl
       have hcz27_8 : w15.cell? ⟨gb326, 8, none⟩ = some (.slice none 0 0) := (qa2 BK326.out 8).trans rfl
       have hfz27_0 := qa1 BK326.out 0
       have hfz27_1 := qa1 BK326.out 1
       have hfz27_2 := qa1 BK326.out 2
       have hfz27_3 := qa1 BK326.out 3
       have hfz27_4 := qa1 BK326.out 4
       have hfz27_5 := qa1 BK326.out 5
       have hfz27_6 := qa1 BK326.out 6
       have hfz27_7 := qa1 BK326.out 7
       have hfz27_8 := qa1 BK326.out 8
       go_wp2
       go_meet
       case rel => exact ⟨_, (true), (by first | rfl | (simp; done) | (simp [*]; done) | (exfalso; simp only [decide_eq_true_eq] at *; omega)), H', ⟨by have := HJ3.out; first | omega | exact Nat.le_refl _⟩, ⟨by (with_reducible repeat (first | apply Kd.qbp | apply Kd.qbq | apply Kd.qbo)); exact Kd.qbg (Kd.qay (p := ⟨gb327, 1, none⟩) (Kd.qay (p := ⟨gb327, 0, none⟩) (Kd.qay (p := ⟨gb326, 8, none⟩) (Kd.qay (p := ⟨gb326, 7, none⟩) (Kd.qay (p := ⟨gb326, 6, none⟩) (Kd.qay (p := ⟨gb326, 5, none⟩) (Kd.qay (p := ⟨gb326, 4, none⟩) (Kd.qay (p := ⟨gb326, 3, none⟩) (Kd.qay (p := ⟨gb326, 2, none⟩) (Kd.qay (p := ⟨gb326, 1, none⟩) (Kd.qay (p := ⟨gb326, 0, none⟩) (Kd.qdx (Kd.qbg HO323.out (fun k_ hk => (⟨hk, hk.2⟩ : _ ∧ k_ ≠ gb326))) BK327.out (by decide)) (fun _ hk => hk.1.2) (.int .i64 t313)) (fun _ hk => hk.1.2) (.int .u64 t314)) (fun _ hk => hk.1.2) (.int .u64 t315)) (fun _ hk => hk.1.2) (.int .u64 t316)) (fun _ hk => hk.1.2) (.int .u64 t317)) (fun _ hk => hk.1.2) (.int .i64 t318)) (fun _ hk => hk.1.2) (.int .i64 t319)) (fun _ hk => hk.1.2) (.int .i64 t320)) (fun _ hk => hk.1.2) (.slice Ao18 t321.length co18)) (fun _ hk => hk.2) (.int .i64 t324)) (fun _ hk => hk.2) (.int .i64 t325)) (fun _ hk => hk.1.1.2)⟩, ⟨by (with_reducible repeat (first | refine qa4 ?_ _ | refine qa5 ?_ | refine qa3 ?_ _)); refine qah ?_ NB326_327.out _; (with_reducible repeat (first | refine qa4 ?_ _ | refine qa5 ?_ | refine qa3 ?_ _)); refine qah ?_ NB326_327.out _; (with_reducible repeat (first | refine qa4 ?_ _ | refine qa5 ?_ | refine qa3 ?_ _)); refine qaa (cs := #[.int .i64 t313, .int .u64 t314, .int .u64 t315, .int .u64 t316, .int .u64 t317, .int .i64 t318, .int .i64 t319, .int .i64 t320, .slice none 0 0]) ?_ 8 _ rfl; (with_reducible repeat (first | refine qa4 ?_ _ | refine qa5 ?_ | refine qa3 ?_ _)); refine qaa (cs := #[.int .i64 t313, .int .u64 t314, .int .u64 t315, .int .u64 t316, .int .u64 t317, .int .i64 t318, .int .i64 t319, .int .i64 0, .slice none 0 0]) ?_ 7 _ rfl; (with_reducible repeat (first | refine qa4 ?_ _ | refine qa5 ?_ | refine qa3 ?_ _)); refine qaa (cs := #[.int .i64 t313, .int .u64 t314, .int .u64 t315, .int .u64 t316, .int .u64 t317, .int .i64 t318, .int .i64 0, .int .i64 0, .slice none 0 0]) ?_ 6 _ rfl; (with_reducible repeat (first | refine qa4 ?_ _ | refine qa5 ?_ | refine qa3 ?_ _)); refine qaa (cs := #[.int .i64 t313, .int .u64 t314, .int .u64 t315, .int .u64 t316, .int .u64 t317, .int .i64 0, .int .i64 0, .int .i64 0, .slice none 0 0]) ?_ 5 _ rfl; (with_reducible repeat (first | refine qa4 ?_ _ | refine qa5 ?_ | refine qa3 ?_ _)); refine qaa (cs := #[.int .i64 t313, .int .u64 t314, .int .u64 t315, .int .u64 t316, .int .u64 0, .int .i64 0, .int .i64 0, .int .i64 0, .slice none 0 0]) ?_ 4 _ rfl; (with_reducible repeat (first | refine qa4 ?_ _ | refine qa5 ?_ | refine qa3 ?_ _)); refine qaa (cs := #[.int .i64 t313, .int .u64 t314, .int .u64 t315, .int .u64 0, .int .u64 0, .int .i64 0, .int .i64 0, .int .i64 0, .slice none 0 0]) ?_ 3 _ rfl; (with_reducible repeat (first | refine qa4 ?_ _ | refine qa5 ?_ | refine qa3 ?_ _)); refine qaa (cs := #[.int .i64 t313, .int .u64 t314, .int .u64 0, .int .u64 0, .int .u64 0, .int .i64 0, .int .i64 0, .int .i64 0, .slice none 0 0]) ?_ 2 _ rfl; (with_reducible repeat (first | refine qa4 ?_ _ | refine qa5 ?_ | refine qa3 ?_ _)); refine qaa (cs := #[.int .i64 t313, .int .u64 0, .int .u64 0, .int .u64 0, .int .u64 0, .int .i64 0, .int .i64 0, .int .i64 0, .slice none 0 0]) ?_ 1 _ rfl; (with_reducible repeat (first | refine qa4 ?_ _ | refine qa5 ?_ | refine qa3 ?_ _)); refine qaa (cs := #[.int .i64 0, .int .u64 0, .int .u64 0, .int .u64 0, .int .u64 0, .int .i64 0, .int .i64 0, .int .i64 0, .slice none 0 0]) ?_ 0 _ rfl; (with_reducible repeat (first | refine qa4 ?_ _ | refine qa5 ?_ | refine qa3 ?_ _)); exact BK326.out⟩, ⟨by (with_reducible repeat (first | refine qa4 ?_ _ | refine qa5 ?_ | refine qa3 ?_ _)); refine qaa (cs := #[.int .i64 t324, .int .i64 0]) ?_ 1 _ rfl; (with_reducible repeat (first | refine qa4 ?_ _ | refine qa5 ?_ | refine qa3 ?_ _)); refine qaa (cs := #[.int .i64 0, .int .i64 0]) ?_ 0 _ rfl; (with_reducible repeat (first | refine qa4 ?_ _ | refine qa5 ?_ | refine qa3 ?_ _)); refine qah ?_ NB327_326.out _; (with_reducible repeat (first | refine qa4 ?_ _ | refine qa5 ?_ | refine qa3 ?_ _)); refine qah ?_ NB327_326.out _; (with_reducible repeat (first | refine qa4 ?_ _ | refine qa5 ?_ | refine qa3 ?_ _)); refine qah ?_ NB327_326.out _; (with_reducible repeat (first | refine qa4 ?_ _ | refine qa5 ?_ | refine qa3 ?_ _)); refine qah ?_ NB327_326.out _; (with_reducible repeat (first | refine qa4 ?_ _ | refine qa5 ?_ | refine qa3 ?_ _)); refine qah ?_ NB327_326.out _; (with_reducible repeat (first | refine qa4 ?_ _ | refine qa5 ?_ | refine qa3 ?_ _)); refine qah ?_ NB327_326.out _; (with_reducible repeat (first | refine qa4 ?_ _ | refine qa5 ?_ | refine qa3 ?_ _)); refine qah ?_ NB327_326.out _; (with_reducible repeat (first | refine qa4 ?_ _ | refine qa5 ?_ | refine qa3 ?_ _)); refine qah ?_ NB327_326.out _; (with_reducible repeat (first | refine qa4 ?_ _ | refine qa5 ?_ | refine qa3 ?_ _)); refine qah ?_ NB327_326.out _; (with_reducible repeat (first | refine qa4 ?_ _ | refine qa5 ?_ | refine qa3 ?_ _)); exact BK327.out⟩, ⟨by repeat (first | (with_reducible first | exact HB.out | apply qa6 | apply qa7 | apply qa9 | refine qa8 ?_ GE326.out | refine qa8 ?_ GE327.out) | exact HB.out)⟩⟩
     ·rw [if_neg c20] at H
      have c20b0 : (t324 == 0) = false := beq_eq_false_iff_ne.mpr c20
      have c20b1 : (t324 != 0) = true := bne_iff_ne.mpr c20
      (first | rw [c20b0] | (simp only [qbe, qcg]; rw [c20b0]) | skip)
      have H' := qa0.mk H
      clear H
      have hnb28 := NB327_326.out
      have hnc28 := NB326_327.out
      have hcz29_0 : w15.cell? ⟨gb327, 0, none⟩ = some (.int .i64 0) := (qa2 BK327.out 0).trans rfl
      have hcz29_1 : w15.cell? ⟨gb327, 1, none⟩ = some (.int .i64 0) := (qa2 BK327.out 1).trans rfl
      have hfz29_0 := qa1 BK327.out 0
      have hfz29_1 := qa1 BK327.out 1
      go_wp2
      go_meet
      case rel => exact ⟨_, (true), (by first | rfl | (simp; done) | (simp [*]; done) | (exfalso; simp only [decide_eq_true_eq] at *; omega)), H', ⟨by have := HJ3.out; first | omega | exact Nat.le_refl _⟩, ⟨by (with_reducible repeat (first | apply Kd.qbp | apply Kd.qbq | apply Kd.qbo)); exact Kd.qbg (Kd.qay (p := ⟨gb327, 1, none⟩) (Kd.qay (p := ⟨gb327, 0, none⟩) (Kd.qay (p := ⟨gb326, 8, none⟩) (Kd.qay (p := ⟨gb326, 7, none⟩) (Kd.qay (p := ⟨gb326, 6, none⟩) (Kd.qay (p := ⟨gb326, 5, none⟩) (Kd.qay (p := ⟨gb326, 4, none⟩) (Kd.qay (p := ⟨gb326, 3, none⟩) (Kd.qay (p := ⟨gb326, 2, none⟩) (Kd.qay (p := ⟨gb326, 1, none⟩) (Kd.qay (p := ⟨gb326, 0, none⟩) (Kd.qdx (Kd.qbg HO323.out (fun k_ hk => (⟨hk, hk.2⟩ : _ ∧ k_ ≠ gb326))) BK327.out (by decide)) (fun _ hk => hk.1.2) (.int .i64 t313)) (fun _ hk => hk.1.2) (.int .u64 t314)) (fun _ hk => hk.1.2) (.int .u64 t315)) (fun _ hk => hk.1.2) (.int .u64 t316)) (fun _ hk => hk.1.2) (.int .u64 t317)) (fun _ hk => hk.1.2) (.int .i64 t318)) (fun _ hk => hk.1.2) (.int .i64 t319)) (fun _ hk => hk.1.2) (.int .i64 t320)) (fun _ hk => hk.1.2) (.slice Ao18 t321.length co18)) (fun _ hk => hk.2) (.int .i64 t324)) (fun _ hk => hk.2) (.int .i64 t325)) (fun _ hk => hk.1.1.2)⟩, ⟨by (with_reducible repeat (first | refine qa4 ?_ _ | refine qa5 ?_ | refine qa3 ?_ _)); refine qah ?_ NB326_327.out _; (with_reducible repeat (first | refine qa4 ?_ _ | refine qa5 ?_ | refine qa3 ?_ _)); refine qah ?_ NB326_327.out _; (with_reducible repeat (first | refine qa4 ?_ _ | refine qa5 ?_ | refine qa3 ?_ _)); refine qaa (cs := #[.int .i64 t313, .int .u64 t314, .int .u64 t315, .int .u64 t316, .int .u64 t317, .int .i64 t318, .int .i64 t319, .int .i64 t320, .slice none 0 0]) ?_ 8 _ rfl; (with_reducible repeat (first | refine qa4 ?_ _ | refine qa5 ?_ | refine qa3 ?_ _)); refine qaa (cs := #[.int .i64 t313, .int .u64 t314, .int .u64 t315, .int .u64 t316, .int .u64 t317, .int .i64 t318, .int .i64 t319, .int .i64 0, .slice none 0 0]) ?_ 7 _ rfl; (with_reducible repeat (first | refine qa4 ?_ _ | refine qa5 ?_ | refine qa3 ?_ _)); refine qaa (cs := #[.int .i64 t313, .int .u64 t314, .int .u64 t315, .int .u64 t316, .int .u64 t317, .int .i64 t318, .int .i64 0, .int .i64 0, .slice none 0 0]) ?_ 6 _ rfl; (with_reducible repeat (first | refine qa4 ?_ _ | refine qa5 ?_ | refine qa3 ?_ _)); refine qaa (cs := #[.int .i64 t313, .int .u64 t314, .int .u64 t315, .int .u64 t316, .int .u64 t317, .int .i64 0, .int .i64 0, .int .i64 0, .slice none 0 0]) ?_ 5 _ rfl; (with_reducible repeat (first | refine qa4 ?_ _ | refine qa5 ?_ | refine qa3 ?_ _)); refine qaa (cs := #[.int .i64 t313, .int .u64 t314, .int .u64 t315, .int .u64 t316, .int .u64 0, .int .i64 0, .int .i64 0, .int .i64 0, .slice none 0 0]) ?_ 4 _ rfl; (with_reducible repeat (first | refine qa4 ?_ _ | refine qa5 ?_ | refine qa3 ?_ _)); refine qaa (cs := #[.int .i64 t313, .int .u64 t314, .int .u64 t315, .int .u64 0, .int .u64 0, .int .i64 0, .int .i64 0, .int .i64 0, .slice none 0 0]) ?_ 3 _ rfl; (with_reducible repeat (first | refine qa4 ?_ _ | refine qa5 ?_ | refine qa3 ?_ _)); refine qaa (cs := #[.int .i64 t313, .int .u64 t314, .int .u64 0, .int .u64 0, .int .u64 0, .int .i64 0, .int .i64 0, .int .i64 0, .slice none 0 0]) ?_ 2 _ rfl; (with_reducible repeat (first | refine qa4 ?_ _ | refine qa5 ?_ | refine qa3 ?_ _)); refine qaa (cs := #[.int .i64 t313, .int .u64 0, .int .u64 0, .int .u64 0, .int .u64 0, .int .i64 0, .int .i64 0, .int .i64 0, .slice none 0 0]) ?_ 1 _ rfl; (with_reducible repeat (first | refine qa4 ?_ _ | refine qa5 ?_ | refine qa3 ?_ _)); refine qaa (cs := #[.int .i64 0, .int .u64 0, .int .u64 0, .int .u64 0, .int .u64 0, .int .i64 0, .int .i64 0, .int .i64 0, .slice none 0 0]) ?_ 0 _ rfl; (with_reducible repeat (first | refine qa4 ?_ _ | refine qa5 ?_ | refine qa3 ?_ _)); exact BK326.out⟩, ⟨by (with_reducible repeat (first | refine qa4 ?_ _ | refine qa5 ?_ | refine qa3 ?_ _)); refine qaa (cs := #[.int .i64 t324, .int .i64 0]) ?_ 1 _ rfl; (with_reducible repeat (first | refine qa4 ?_ _ | refine qa5 ?_ | refine qa3 ?_ _)); refine qaa (cs := #[.int .i64 0, .int .i64 0]) ?_ 0 _ rfl; (with_reducible repeat (first | refine qa4 ?_ _ | refine qa5 ?_ | refine qa3 ?_ _)); refine qah ?_ NB327_326.out _; (with_reducible repeat (first | refine qa4 ?_ _ | refine qa5 ?_ | refine qa3 ?_ _)); refine qah ?_ NB327_326.out _; (with_reducible repeat (first | refine qa4 ?_ _ | refine qa5 ?_ | refine qa3 ?_ _)); refine qah ?_ NB327_326.out _; (with_reducible repeat (first | refine qa4 ?_ _ | refine qa5 ?_ | refine qa3 ?_ _)); refine qah ?_ NB327_326.out _; (with_reducible repeat (first | refine qa4 ?_ _ | refine qa5 ?_ | refine qa3 ?_ _)); refine qah ?_ NB327_326.out _; (with_reducible repeat (first | refine qa4 ?_ _ | refine qa5 ?_ | refine qa3 ?_ _)); refine qah ?_ NB327_326.out _; (with_reducible repeat (first | refine qa4 ?_ _ | refine qa5 ?_ | refine qa3 ?_ _)); refine qah ?_ NB327_326.out _; (with_reducible repeat (first | refine qa4 ?_ _ | refine qa5 ?_ | refine qa3 ?_ _)); refine qah ?_ NB327_326.out _; (with_reducible repeat (first | refine qa4 ?_ _ | refine qa5 ?_ | refine qa3 ?_ _)); refine qah ?_ NB327_326.out _; (with_reducible repeat (first | refine qa4 ?_ _ | refine qa5 ?_ | refine qa3 ?_ _)); exact BK327.out⟩, ⟨by repeat (first | (with_reducible first | exact HB.out | apply qa6 | apply qa7 | apply qa9 | refine qa8 ?_ GE326.out | refine qa8 ?_ GE327.out) | exact HB.out)⟩⟩
    case rest =>
     clear HC11
     try clear c1
     try clear c2
     try clear p2
     try clear c3
     try clear c5
     try clear c6
     try clear c6b0
     try clear c6b1
     try clear c7
     try clear c7b0
     try clear c7b1
     try clear c8
     try clear c8b0
     try clear c8b1
     try clear c12
     try clear c14
     try clear c16
     try clear c18
     try clear c20
     try clear c20b0
     try clear c20b1
     try clear c21
     try clear c21b0
     try clear c21b1
     try clear c22
     try clear c25
     try clear c28
     try clear hcz17_0
     try clear hcz17_1
     try clear hcz17_2
     try clear hcz17_3
     try clear hcz17_4
     try clear hcz17_5
     try clear hcz17_6
     try clear hcz17_7
     try clear hcz17_8
     try clear hcz19_0
     try clear hcz19_1
     try clear hcz23_0
     try clear hcz23_1
     try clear hcz24_0
     try clear hcz24_1
     try clear hcz24_2
     try clear hcz24_3
     try clear hcz24_4
     try clear hcz24_5
     try clear hcz24_6
     try clear hcz24_7
     try clear hcz24_8
     try clear hcz26_0
     try clear hcz26_1
     try clear hcz27_0
     try clear hcz27_1
     try clear hcz27_2
     try clear hcz27_3
     try clear hcz27_4
     try clear hcz27_5
     try clear hcz27_6
     try clear hcz27_7
     try clear hcz27_8
     try clear hcz29_0
     try clear hcz29_1
     try clear hfz17_0
     try clear hfz17_1
     try clear hfz17_2
     try clear hfz17_3
     try clear hfz17_4
     try clear hfz17_5
     try clear hfz17_6
     try clear hfz17_7
     try clear hfz17_8
     try clear hfz19_0
     try clear hfz19_1
     try clear hfz23_0
     try clear hfz23_1
     try clear hfz24_0
     try clear hfz24_1
     try clear hfz24_2
     try clear hfz24_3
     try clear hfz24_4
     try clear hfz24_5
     try clear hfz24_6
     try clear hfz24_7
     try clear hfz24_8
     try clear hfz26_0
     try clear hfz26_1
     try clear hfz27_0
     try clear hfz27_1
     try clear hfz27_2
     try clear hfz27_3
     try clear hfz27_4
     try clear hfz27_5
     try clear hfz27_6
     try clear hfz27_7
     try clear hfz27_8
     try clear hfz29_0
     try clear hfz29_1
     try clear p2
     obtain ⟨kq, x35_10, rfl, HA, HJ10, HO_327008, BK326, BK327, HB⟩ := hcut
     cases kq with
     | zero => exact absurd HA.out (by simp [qaf.j1])
     | succ kj10 =>
      have H := HA.out
      clear HA
      simp only [qaf.j1] at H
      by_cases c30 : x35_10 = true
      ·subst c30
       have H1 : (some false) = some true := by rw [if_pos rfl] at H; exact H
       clear H
       have H := H1
       clear H1
       cases Option.some.inj H
      ·replace c30 := Bool.eq_false_iff.mpr c30
       subst c30
       have H1 : (qaf.l0 kj10 x0_3 t321 (t321.length : Int) 0) = some true := by rw [if_neg (show ¬ (false = true) by decide)] at H; exact H
       clear H
       have H := H1
       clear H1
       have H' := qa0.mk H
       clear H
       have hnb31 := NB326_327.out
       have hnc31 := NB327_326.out
       have hcz32_0 : wc.cell? ⟨gb326, 0, none⟩ = some (.int .i64 t313) := (qa2 BK326.out 0).trans rfl
       have hcz32_1 : wc.cell? ⟨gb326, 1, none⟩ = some (.int .u64 t314) := (qa2 BK326.out 1).trans rfl
       have hcz32_2 : wc.cell? ⟨gb326, 2, none⟩ = some (.int .u64 t315) := (qa2 BK326.out 2).trans rfl
       have hcz32_3 : wc.cell? ⟨gb326, 3, none⟩ = some (.int .u64 t316) := (qa2 BK326.out 3).trans rfl
       have hcz32_4 : wc.cell? ⟨gb326, 4, none⟩ = some (.int .u64 t317) := (qa2 BK326.out 4).trans rfl
       have hcz32_5 : wc.cell? ⟨gb326, 5, none⟩ = some (.int .i64 t318) := (qa2 BK326.out 5).trans rfl
       have hcz32_6 : wc.cell? ⟨gb326, 6, none⟩ = some (.int .i64 t319) := (qa2 BK326.out 6).trans rfl
       have hcz32_7 : wc.cell? ⟨gb326, 7, none⟩ = some (.int .i64 t320) := (qa2 BK326.out 7).trans rfl
       have hcz32_8 : wc.cell? ⟨gb326, 8, none⟩ = some (.slice Ao18 t321.length co18) := (qa2 BK326.out 8).trans rfl
       have hfz32_0 := qa1 BK326.out 0
       have hfz32_1 := qa1 BK326.out 1
       have hfz32_2 := qa1 BK326.out 2
       have hfz32_3 := qa1 BK326.out 3
       have hfz32_4 := qa1 BK326.out 4
       have hfz32_5 := qa1 BK326.out 5
       have hfz32_6 := qa1 BK326.out 6
       have hfz32_7 := qa1 BK326.out 7
       have hfz32_8 := qa1 BK326.out 8
       go_wp2
       go_loopg [39] kj10 (fun kq v39 w' => ∃ (x39_3 : Int), v39 = .int .i64 x39_3 ∧ qa0 (qaf.l0 kq x0_3 t321 (t321.length : Int) x39_3 = some true) ∧ qa0 (kq ≤ kj10) ∧ qa0 (Kd.R k27 27 w' w.heap.size (fun k_ => k_ ≠ gb326) (.slice Ao18 t321.length co18) t321) ∧ qa0 (Kd.R k27 27 w' w.heap.size (fun k_ => k_ ≠ gb326) (.slice Ao18 t321.length co18) t321) ∧ qa0 (w'.heap[gb326]? = some (.cells #[.int .i64 t313, .int .u64 t314, .int .u64 t315, .int .u64 t316, .int .u64 t317, .int .i64 t318, .int .i64 t319, .int .i64 t320, (.slice Ao18 t321.length co18)] 27 (0, 0))) ∧ qa0 (w'.heap[gb327]? = some (.cells #[.int .i64 t324, .int .i64 t325] 30 (0, 0))) ∧ qa0 (Below w.heap.size w w'))
       case atStart => exact ⟨(0), (by first | rfl | (simp; done) | (simp [*]; done) | (exfalso; simp only [decide_eq_true_eq] at *; omega)), H', ⟨Nat.le_refl _⟩, ⟨by (with_reducible repeat (first | apply Kd.qbp | apply Kd.qbq | apply Kd.qbo)); exact HO_327008.out⟩, ⟨by (with_reducible repeat (first | apply Kd.qbp | apply Kd.qbq | apply Kd.qbo)); exact HO_327008.out⟩, ⟨by (with_reducible repeat (first | refine qa4 ?_ _ | refine qa5 ?_ | refine qa3 ?_ _)); exact BK326.out⟩, ⟨by (with_reducible repeat (first | refine qa4 ?_ _ | refine qa5 ?_ | refine qa3 ?_ _)); exact BK327.out⟩, ⟨by repeat (first | (with_reducible first | exact HB.out | apply qa6 | apply qa7 | apply qa9 | refine qa8 ?_ GE326.out | refine qa8 ?_ GE327.out) | exact HB.out)⟩⟩
       case round =>
        clear H'
        try clear c1
        try clear c2
        try clear p2
        try clear c3
        try clear c5
        try clear c6
        try clear c6b0
        try clear c6b1
        try clear c7
        try clear c7b0
        try clear c7b1
        try clear c8
        try clear c8b0
        try clear c8b1
        try clear c12
        try clear c14
        try clear c16
        try clear c18
        try clear c20
        try clear c20b0
        try clear c20b1
        try clear c21
        try clear c21b0
        try clear c21b1
        try clear c22
        try clear c25
        try clear c28
        try clear c30
        try clear c31
        try clear hcz17_0
        try clear hcz17_1
        try clear hcz17_2
        try clear hcz17_3
        try clear hcz17_4
        try clear hcz17_5
        try clear hcz17_6
        try clear hcz17_7
        try clear hcz17_8
        try clear hcz19_0
        try clear hcz19_1
        try clear hcz23_0
        try clear hcz23_1
        try clear hcz24_0
        try clear hcz24_1
        try clear hcz24_2
        try clear hcz24_3
        try clear hcz24_4
        try clear hcz24_5
        try clear hcz24_6
        try clear hcz24_7
        try clear hcz24_8
        try clear hcz26_0
        try clear hcz26_1
        try clear hcz27_0
        try clear hcz27_1
        try clear hcz27_2
        try clear hcz27_3
        try clear hcz27_4
        try clear hcz27_5
        try clear hcz27_6
        try clear hcz27_7
        try clear hcz27_8
        try clear hcz29_0
        try clear hcz29_1
        try clear hcz32_0
        try clear hcz32_1
        try clear hcz32_2
        try clear hcz32_3
        try clear hcz32_4
        try clear hcz32_5
        try clear hcz32_6
        try clear hcz32_7
        try clear hcz32_8
        try clear hfz17_0
        try clear hfz17_1
        try clear hfz17_2
        try clear hfz17_3
        try clear hfz17_4
        try clear hfz17_5
        try clear hfz17_6
        try clear hfz17_7
        try clear hfz17_8
        try clear hfz19_0
        try clear hfz19_1
        try clear hfz23_0
        try clear hfz23_1
        try clear hfz24_0
        try clear hfz24_1
        try clear hfz24_2
        try clear hfz24_3
        try clear hfz24_4
        try clear hfz24_5
        try clear hfz24_6
        try clear hfz24_7
        try clear hfz24_8
        try clear hfz26_0
        try clear hfz26_1
        try clear hfz27_0
        try clear hfz27_1
        try clear hfz27_2
        try clear hfz27_3
        try clear hfz27_4
        try clear hfz27_5
        try clear hfz27_6
        try clear hfz27_7
        try clear hfz27_8
        try clear hfz29_0
        try clear hfz29_1
        try clear hfz32_0
        try clear hfz32_1
        try clear hfz32_2
        try clear hfz32_3
        try clear hfz32_4
        try clear hfz32_5
        try clear hfz32_6
        try clear hfz32_7
        try clear hfz32_8
        try clear p2
        obtain ⟨x39_3, rfl, HA, HK3, HO_37, HO_327008, BK326, BK327, HB⟩ := hrel
        cases gk with
        | zero => exact absurd HA.out (by simp [qaf.l0])
        | succ k3 =>
         have H := HA.out
         clear HA
         simp only [qaf.l0] at H
         by_cases c33 : x39_3 < (t321.length : Int)
         ·rw [if_pos c33] at H
          have c33b0 : decide (x39_3 < (t321.length : Int)) = true := decide_eq_true c33
          clear c33
          by_cases c34 : 0 ≤ x39_3
          ·rw [if_pos c34] at H
           have c34b0 : decide (0 ≤ x39_3) = true := decide_eq_true c34
           clear c34
           by_cases c35 : x39_3 < (t321.length : Int)
           ·rw [if_pos c35] at H
            have c35b0 : decide (x39_3 < (t321.length : Int)) = true := decide_eq_true c35
            clear c35
            by_cases c36 : ((qae t321 x39_3).f0) = 1
            ·rw [if_pos c36] at H
             have c36b0 : (((qae t321 x39_3).f0) == 1) = true := beq_iff_eq.mpr c36
             have c36b1 : (((qae t321 x39_3).f0) != 1) = false := bne_eq_false_iff_eq.mpr c36
             clear c36
             have c37b0 := eq_true (of_decide_eq_true (by first | (with_reducible assumption) | assumption) : 0 ≤ x39_3)
             by_cases c38 : x39_3 ≤ (wrap64 (x39_3 + 1))
             ·rw [if_pos c38] at H
              have c38b0 := eq_true c38
              have c38b1 : decide (x39_3 ≤ (wrap64 (x39_3 + 1))) = true := decide_eq_true c38
              by_cases c39 : (wrap64 (x39_3 + 1)) ≤ (x0_3.size : Int)
              ·rw [if_pos c39] at H
               have c39b0 := eq_true c39
               have c39b1 : decide ((wrap64 (x39_3 + 1)) ≤ (x0_3.size : Int)) = true := decide_eq_true c39
               replace H := Option.bind_eq_some_iff.mp H
               obtain ⟨⟨t330, t331, t332, t333⟩, A400, H⟩ := H
               replace H : (if (!(((qae t321 x39_3).f1.f0) == t330) || (!(((qae t321 x39_3).f1.f1) == t331) || (!(((qae t321 x39_3).f1.f2) == t332) || (!(((qae t321 x39_3).f1.f3) == t333))))) = true then (some false) else (qaf.l0 k3 x0_3 t321 (t321.length : Int) (wrap64 (x39_3 + 1)))) = some true := H
               have A40 := qa0.mk A400
               clear A400
               by_cases c41 : (!(((qae t321 x39_3).f1.f0) == t330) || (!(((qae t321 x39_3).f1.f1) == t331) || (!(((qae t321 x39_3).f1.f2) == t332) || (!(((qae t321 x39_3).f1.f3) == t333))))) = true
               ·rw [if_pos c41] at H
                have c41b0 : (!(((qae t321 x39_3).f1.f0) == t330) || (!(((qae t321 x39_3).f1.f1) == t331) || (!(((qae t321 x39_3).f1.f2) == t332) || (!(((qae t321 x39_3).f1.f3) == t333))))) = true := c41
                clear c41
                cases Option.some.inj H
               ·rw [if_neg c41] at H
                have c41b0 : (!(((qae t321 x39_3).f1.f0) == t330) || (!(((qae t321 x39_3).f1.f1) == t331) || (!(((qae t321 x39_3).f1.f2) == t332) || (!(((qae t321 x39_3).f1.f3) == t333))))) = false := by simpa using c41
                clear c41
                have H' := qa0.mk H
                clear H
                have p328 : 0 ≤ (x39_3 : Int) := of_decide_eq_true (by first | (with_reducible assumption) | assumption)
                have q328 : x39_3 < (t321.length : Int) := of_decide_eq_true (by first | (with_reducible assumption) | assumption)
                obtain ⟨ad328, A328_8, c328_8, e328, hx328_0, hx328_1, hx328_2, hx328_3, hx328_4, hx328_5, hx328_6, hx328_7, hx328_8, hl328_8, hi328_8⟩ := qi0 (Kd.qdk HO_37.out).2.2 x39_3 p328 q328
                cases e328
                obtain ⟨ce328, hce328, hMe328, hcc328⟩ := Kd.R_get HO_37.out z27 x39_3 p328 (by first | exact q328 | exact of_decide_eq_true (by first | (with_reducible assumption) | assumption) | (have e_ := (Kd.qdk HO_37.out).1; omega))
                obtain ⟨ve328_8, rfl, ge328_8⟩ := qey hMe328
                have hv328_8 := hcc328 8 _ rfl
                rw [qd6 _ _ 8 (by omega)] at hv328_8
                replace hv328_8 := Option.some.inj (hv328_8.symm.trans hx328_8)
                rw [hv328_8] at ge328_8
                have HL328_8 := qa0.mk (show Kd.R k27 27 _ _ _ _ ((qae t321 x39_3).f5) from ge328_8)
                clear hv328_8 ge328_8
                clear hcc328 hce328
                have HR328_8 := qa0.mk hi328_8
                have HC328_8 := qa0.mk hl328_8
                clear hi328_8 hl328_8
                replace p328 := eq_true p328
                replace q328 := eq_true q328
                try go_wp2_with (first | ((with_reducible refine qba (N := 6) rfl ?_); (try (refine qcp (by rfl) ?_; dsimp only)); refine qbb ?hg (N := 6) ?hd (cs := #[.int .i64 0, .int .u64 0, .int .u64 0, .int .u64 0, .int .u64 0, .int .i64 0, .int .i64 0, .int .i64 0, .slice none 0 0]) (t := 27) ?hr ?_; (case hd => rfl); (case hg => rfl); (case hr => first | (go_simp; done) | (go_simp; rfl)); intro gb329 hg w49 hbox hb; have n0_ := qa0.mk (Kd.qbi (Kd.qei (by (with_reducible repeat (first | apply Kd.qbp | apply Kd.qbq | apply Kd.qbo)); exact HO_37.out) gb329 (Nat.le_of_eq hg.symm)) hb); have n1_ := qa0.mk (Kd.qbi (Kd.qei (by (with_reducible repeat (first | apply Kd.qbp | apply Kd.qbq | apply Kd.qbo)); exact HO_327008.out) gb329 (Nat.le_of_eq hg.symm)) hb); have n2_ := qa0.mk (Kd.qbi (Kd.qei (by (with_reducible repeat (first | apply Kd.qbp | apply Kd.qbq | apply Kd.qbo)); exact HL328_8.out) gb329 (Nat.le_of_eq hg.symm)) hb); have n3_ := qa0.mk (qai (g := gb326) (o := .cells #[.int .i64 t313, .int .u64 t314, .int .u64 t315, .int .u64 t316, .int .u64 t317, .int .i64 t318, .int .i64 t319, .int .i64 t320, .slice (some ad328) t321.length co18] 27 (0, 0)) (by (with_reducible repeat (first | refine qa4 ?_ _ | refine qa5 ?_ | refine qa3 ?_ _)); exact BK326.out) hb); have n4_ := qa0.mk (qai (g := gb327) (o := .cells #[.int .i64 t324, .int .i64 t325] 30 (0, 0)) (by (with_reducible repeat (first | refine qa4 ?_ _ | refine qa5 ?_ | refine qa3 ?_ _)); exact BK327.out) hb); have n5_ := qa0.mk (Kd.qfu (by repeat (first | (with_reducible exact HR328_8.out) | (with_reducible refine Kd.C_alloc ?_ _) | (with_reducible refine Kd.C_drewN ?_ _) | (with_reducible refine Kd.C_drew ?_) | exact HR328_8.out)) hb); have n6_ := qa0.mk (qat (by repeat (first | (with_reducible first | exact HB.out | apply qa6 | apply qa7 | apply qa9 | refine qa8 ?_ GE326.out | refine qa8 ?_ GE327.out) | exact HB.out)) hb); have n7_ := qa0.mk (hbox); have n8_ := qa0.mk ((by rw [hg]; exact (qar (by repeat (first | (with_reducible first | exact HB.out | apply qa6 | apply qa7 | apply qa9 | refine qa8 ?_ GE326.out | refine qa8 ?_ GE327.out) | exact HB.out))) : w.heap.size ≤ gb329)); have n9_ := qa0.mk ((by rw [hg]; exact (qar (by repeat (first | (with_reducible first | exact HB.out | apply qa6 | apply qa7 | apply qa9 | refine qa8 ?_ GE326.out | refine qa8 ?_ GE327.out) | exact HB.out))) : w.heap.size ≤ gb329)); have n10_ := qa0.mk ((by rw [hg]; exact Nat.ne_of_lt (qam (g := gb326) (o := .cells #[.int .i64 t313, .int .u64 t314, .int .u64 t315, .int .u64 t316, .int .u64 t317, .int .i64 t318, .int .i64 t319, .int .i64 t320, .slice (some ad328) t321.length co18] 27 (0, 0)) (by (with_reducible repeat (first | refine qa4 ?_ _ | refine qa5 ?_ | refine qa3 ?_ _)); exact BK326.out)) : gb326 ≠ gb329)); have n11_ := qa0.mk ((by rw [hg]; exact Nat.ne_of_gt (qam (g := gb326) (o := .cells #[.int .i64 t313, .int .u64 t314, .int .u64 t315, .int .u64 t316, .int .u64 t317, .int .i64 t318, .int .i64 t319, .int .i64 t320, .slice (some ad328) t321.length co18] 27 (0, 0)) (by (with_reducible repeat (first | refine qa4 ?_ _ | refine qa5 ?_ | refine qa3 ?_ _)); exact BK326.out)) : gb329 ≠ gb326)); have n12_ := qa0.mk ((by rw [hg]; exact Nat.ne_of_lt (qam (g := gb327) (o := .cells #[.int .i64 t324, .int .i64 t325] 30 (0, 0)) (by (with_reducible repeat (first | refine qa4 ?_ _ | refine qa5 ?_ | refine qa3 ?_ _)); exact BK327.out)) : gb327 ≠ gb329)); have n13_ := qa0.mk ((by rw [hg]; exact Nat.ne_of_gt (qam (g := gb327) (o := .cells #[.int .i64 t324, .int .i64 t325] 30 (0, 0)) (by (with_reducible repeat (first | refine qa4 ?_ _ | refine qa5 ?_ | refine qa3 ?_ _)); exact BK327.out)) : gb329 ≠ gb327)); clear HO_37; clear HO_327008; clear HL328_8; clear BK326; clear BK327; clear HR328_8; clear HB; have HO_37 := n0_; have HO_327008 := n1_; have HL328_8 := n2_; have BK326 := n3_; have BK327 := n4_; have HR328_8 := n5_; have HB := n6_; have BK329 := n7_; have GW329 := n8_; have GE329 := n9_; have NB326_329 := n10_; have NB329_326 := n11_; have NB327_329 := n12_; have NB329_327 := n13_; clear n0_ n1_ n2_ n3_ n4_ n5_ n6_ n7_ n8_ n9_ n10_ n11_ n12_ n13_; clear hb hbox hg; have hnb50 := NB329_326.out; have hnc50 := NB326_329.out; have hnb51 := NB329_327.out; have hnc51 := NB327_329.out; have hcz52_0 : w49.cell? ⟨gb329, 0, none⟩ = some (.int .i64 0) := (qa2 BK329.out 0).trans rfl; have hcz52_1 : w49.cell? ⟨gb329, 1, none⟩ = some (.int .u64 0) := (qa2 BK329.out 1).trans rfl; have hcz52_2 : w49.cell? ⟨gb329, 2, none⟩ = some (.int .u64 0) := (qa2 BK329.out 2).trans rfl; have hcz52_3 : w49.cell? ⟨gb329, 3, none⟩ = some (.int .u64 0) := (qa2 BK329.out 3).trans rfl; have hcz52_4 : w49.cell? ⟨gb329, 4, none⟩ = some (.int .u64 0) := (qa2 BK329.out 4).trans rfl; have hcz52_5 : w49.cell? ⟨gb329, 5, none⟩ = some (.int .i64 0) := (qa2 BK329.out 5).trans rfl; have hcz52_6 : w49.cell? ⟨gb329, 6, none⟩ = some (.int .i64 0) := (qa2 BK329.out 6).trans rfl; have hcz52_7 : w49.cell? ⟨gb329, 7, none⟩ = some (.int .i64 0) := (qa2 BK329.out 7).trans rfl; have hcz52_8 : w49.cell? ⟨gb329, 8, none⟩ = some (.slice none 0 0) := (qa2 BK329.out 8).trans rfl; have hfz52_0 := qa1 BK329.out 0; have hfz52_1 := qa1 BK329.out 1; have hfz52_2 := qa1 BK329.out 2; have hfz52_3 := qa1 BK329.out 3; have hfz52_4 := qa1 BK329.out 4; have hfz52_5 := qa1 BK329.out 5; have hfz52_6 := qa1 BK329.out 6; have hfz52_7 := qa1 BK329.out 7; have hfz52_8 := qa1 BK329.out 8))
                have n0_ : qa0 (Kd.R k27 27 (((((((((w49.setCell ⟨gb329, 0, none⟩ (.int .i64 ((qae t321 x39_3).f0))).setCell ⟨gb329, 1, none⟩ (.int .u64 ((qae t321 x39_3).f1.f0))).setCell ⟨gb329, 2, none⟩ (.int .u64 ((qae t321 x39_3).f1.f1))).setCell ⟨gb329, 3, none⟩ (.int .u64 ((qae t321 x39_3).f1.f2))).setCell ⟨gb329, 4, none⟩ (.int .u64 ((qae t321 x39_3).f1.f3))).setCell ⟨gb329, 5, none⟩ (.int .i64 ((qae t321 x39_3).f2))).setCell ⟨gb329, 6, none⟩ (.int .i64 ((qae t321 x39_3).f3))).setCell ⟨gb329, 7, none⟩ (.int .i64 ((qae t321 x39_3).f4))).setCell ⟨gb329, 8, none⟩ (.slice A328_8 ((qae t321 x39_3).f5).length c328_8)) w.heap.size (fun k_ => k_ ≠ gb326 ∧ k_ ≠ gb329) (.slice (some ad328) t321.length co18) t321) := ⟨by (with_reducible repeat (first | apply Kd.qbp | apply Kd.qbq | apply Kd.qbo)); exact Kd.qbg (Kd.qay (p := ⟨gb329, 8, none⟩) (Kd.qay (p := ⟨gb329, 7, none⟩) (Kd.qay (p := ⟨gb329, 6, none⟩) (Kd.qay (p := ⟨gb329, 5, none⟩) (Kd.qay (p := ⟨gb329, 4, none⟩) (Kd.qay (p := ⟨gb329, 3, none⟩) (Kd.qay (p := ⟨gb329, 2, none⟩) (Kd.qay (p := ⟨gb329, 1, none⟩) (Kd.qay (p := ⟨gb329, 0, none⟩) (Kd.qbg HO_37.out (fun k_ hk => (⟨hk, hk.2⟩ : _ ∧ k_ ≠ gb329))) (fun _ hk => hk.2) (.int .i64 ((qae t321 x39_3).f0))) (fun _ hk => hk.2) (.int .u64 ((qae t321 x39_3).f1.f0))) (fun _ hk => hk.2) (.int .u64 ((qae t321 x39_3).f1.f1))) (fun _ hk => hk.2) (.int .u64 ((qae t321 x39_3).f1.f2))) (fun _ hk => hk.2) (.int .u64 ((qae t321 x39_3).f1.f3))) (fun _ hk => hk.2) (.int .i64 ((qae t321 x39_3).f2))) (fun _ hk => hk.2) (.int .i64 ((qae t321 x39_3).f3))) (fun _ hk => hk.2) (.int .i64 ((qae t321 x39_3).f4))) (fun _ hk => hk.2) (.slice A328_8 ((qae t321 x39_3).f5).length c328_8)) (fun _ hk => ⟨hk.1.1, hk.1.2⟩)⟩
                have n1_ : qa0 (Kd.R k27 27 (((((((((w49.setCell ⟨gb329, 0, none⟩ (.int .i64 ((qae t321 x39_3).f0))).setCell ⟨gb329, 1, none⟩ (.int .u64 ((qae t321 x39_3).f1.f0))).setCell ⟨gb329, 2, none⟩ (.int .u64 ((qae t321 x39_3).f1.f1))).setCell ⟨gb329, 3, none⟩ (.int .u64 ((qae t321 x39_3).f1.f2))).setCell ⟨gb329, 4, none⟩ (.int .u64 ((qae t321 x39_3).f1.f3))).setCell ⟨gb329, 5, none⟩ (.int .i64 ((qae t321 x39_3).f2))).setCell ⟨gb329, 6, none⟩ (.int .i64 ((qae t321 x39_3).f3))).setCell ⟨gb329, 7, none⟩ (.int .i64 ((qae t321 x39_3).f4))).setCell ⟨gb329, 8, none⟩ (.slice A328_8 ((qae t321 x39_3).f5).length c328_8)) w.heap.size (fun k_ => k_ ≠ gb326 ∧ k_ ≠ gb329) (.slice (some ad328) t321.length co18) t321) := ⟨by (with_reducible repeat (first | apply Kd.qbp | apply Kd.qbq | apply Kd.qbo)); exact Kd.qbg (Kd.qay (p := ⟨gb329, 8, none⟩) (Kd.qay (p := ⟨gb329, 7, none⟩) (Kd.qay (p := ⟨gb329, 6, none⟩) (Kd.qay (p := ⟨gb329, 5, none⟩) (Kd.qay (p := ⟨gb329, 4, none⟩) (Kd.qay (p := ⟨gb329, 3, none⟩) (Kd.qay (p := ⟨gb329, 2, none⟩) (Kd.qay (p := ⟨gb329, 1, none⟩) (Kd.qay (p := ⟨gb329, 0, none⟩) (Kd.qbg HO_327008.out (fun k_ hk => (⟨hk, hk.2⟩ : _ ∧ k_ ≠ gb329))) (fun _ hk => hk.2) (.int .i64 ((qae t321 x39_3).f0))) (fun _ hk => hk.2) (.int .u64 ((qae t321 x39_3).f1.f0))) (fun _ hk => hk.2) (.int .u64 ((qae t321 x39_3).f1.f1))) (fun _ hk => hk.2) (.int .u64 ((qae t321 x39_3).f1.f2))) (fun _ hk => hk.2) (.int .u64 ((qae t321 x39_3).f1.f3))) (fun _ hk => hk.2) (.int .i64 ((qae t321 x39_3).f2))) (fun _ hk => hk.2) (.int .i64 ((qae t321 x39_3).f3))) (fun _ hk => hk.2) (.int .i64 ((qae t321 x39_3).f4))) (fun _ hk => hk.2) (.slice A328_8 ((qae t321 x39_3).f5).length c328_8)) (fun _ hk => ⟨hk.1.1, hk.1.2⟩)⟩
                have n2_ : qa0 (Kd.R k27 27 (((((((((w49.setCell ⟨gb329, 0, none⟩ (.int .i64 ((qae t321 x39_3).f0))).setCell ⟨gb329, 1, none⟩ (.int .u64 ((qae t321 x39_3).f1.f0))).setCell ⟨gb329, 2, none⟩ (.int .u64 ((qae t321 x39_3).f1.f1))).setCell ⟨gb329, 3, none⟩ (.int .u64 ((qae t321 x39_3).f1.f2))).setCell ⟨gb329, 4, none⟩ (.int .u64 ((qae t321 x39_3).f1.f3))).setCell ⟨gb329, 5, none⟩ (.int .i64 ((qae t321 x39_3).f2))).setCell ⟨gb329, 6, none⟩ (.int .i64 ((qae t321 x39_3).f3))).setCell ⟨gb329, 7, none⟩ (.int .i64 ((qae t321 x39_3).f4))).setCell ⟨gb329, 8, none⟩ (.slice A328_8 ((qae t321 x39_3).f5).length c328_8)) w.heap.size (fun k_ => some k_ ≠ (.slice (some ad328) t321.length co18 : Value).ownBlock ∧ k_ ≠ gb326 ∧ k_ ≠ gb329) (.slice A328_8 ((qae t321 x39_3).f5).length c328_8) ((qae t321 x39_3).f5)) := ⟨by (with_reducible repeat (first | apply Kd.qbp | apply Kd.qbq | apply Kd.qbo)); exact Kd.qbg (Kd.qay (p := ⟨gb329, 8, none⟩) (Kd.qay (p := ⟨gb329, 7, none⟩) (Kd.qay (p := ⟨gb329, 6, none⟩) (Kd.qay (p := ⟨gb329, 5, none⟩) (Kd.qay (p := ⟨gb329, 4, none⟩) (Kd.qay (p := ⟨gb329, 3, none⟩) (Kd.qay (p := ⟨gb329, 2, none⟩) (Kd.qay (p := ⟨gb329, 1, none⟩) (Kd.qay (p := ⟨gb329, 0, none⟩) (Kd.qbg HL328_8.out (fun k_ hk => (⟨hk, hk.2⟩ : _ ∧ k_ ≠ gb329))) (fun _ hk => hk.2) (.int .i64 ((qae t321 x39_3).f0))) (fun _ hk => hk.2) (.int .u64 ((qae t321 x39_3).f1.f0))) (fun _ hk => hk.2) (.int .u64 ((qae t321 x39_3).f1.f1))) (fun _ hk => hk.2) (.int .u64 ((qae t321 x39_3).f1.f2))) (fun _ hk => hk.2) (.int .u64 ((qae t321 x39_3).f1.f3))) (fun _ hk => hk.2) (.int .i64 ((qae t321 x39_3).f2))) (fun _ hk => hk.2) (.int .i64 ((qae t321 x39_3).f3))) (fun _ hk => hk.2) (.int .i64 ((qae t321 x39_3).f4))) (fun _ hk => hk.2) (.slice A328_8 ((qae t321 x39_3).f5).length c328_8)) (fun _ hk => ⟨hk.1.1.2, ⟨hk.1.1.1, hk.1.2⟩⟩)⟩
                have n3_ : qa0 ((((((((((w49.setCell ⟨gb329, 0, none⟩ (.int .i64 ((qae t321 x39_3).f0))).setCell ⟨gb329, 1, none⟩ (.int .u64 ((qae t321 x39_3).f1.f0))).setCell ⟨gb329, 2, none⟩ (.int .u64 ((qae t321 x39_3).f1.f1))).setCell ⟨gb329, 3, none⟩ (.int .u64 ((qae t321 x39_3).f1.f2))).setCell ⟨gb329, 4, none⟩ (.int .u64 ((qae t321 x39_3).f1.f3))).setCell ⟨gb329, 5, none⟩ (.int .i64 ((qae t321 x39_3).f2))).setCell ⟨gb329, 6, none⟩ (.int .i64 ((qae t321 x39_3).f3))).setCell ⟨gb329, 7, none⟩ (.int .i64 ((qae t321 x39_3).f4))).setCell ⟨gb329, 8, none⟩ (.slice A328_8 ((qae t321 x39_3).f5).length c328_8)).heap[gb326]? = some (.cells #[.int .i64 t313, .int .u64 t314, .int .u64 t315, .int .u64 t316, .int .u64 t317, .int .i64 t318, .int .i64 t319, .int .i64 t320, .slice (some ad328) t321.length co18] 27 (0, 0))) := ⟨by (with_reducible repeat (first | refine qa4 ?_ _ | refine qa5 ?_ | refine qa3 ?_ _)); refine qah ?_ NB326_329.out _; (with_reducible repeat (first | refine qa4 ?_ _ | refine qa5 ?_ | refine qa3 ?_ _)); refine qah ?_ NB326_329.out _; (with_reducible repeat (first | refine qa4 ?_ _ | refine qa5 ?_ | refine qa3 ?_ _)); refine qah ?_ NB326_329.out _; (with_reducible repeat (first | refine qa4 ?_ _ | refine qa5 ?_ | refine qa3 ?_ _)); refine qah ?_ NB326_329.out _; (with_reducible repeat (first | refine qa4 ?_ _ | refine qa5 ?_ | refine qa3 ?_ _)); refine qah ?_ NB326_329.out _; (with_reducible repeat (first | refine qa4 ?_ _ | refine qa5 ?_ | refine qa3 ?_ _)); refine qah ?_ NB326_329.out _; (with_reducible repeat (first | refine qa4 ?_ _ | refine qa5 ?_ | refine qa3 ?_ _)); refine qah ?_ NB326_329.out _; (with_reducible repeat (first | refine qa4 ?_ _ | refine qa5 ?_ | refine qa3 ?_ _)); refine qah ?_ NB326_329.out _; (with_reducible repeat (first | refine qa4 ?_ _ | refine qa5 ?_ | refine qa3 ?_ _)); refine qah ?_ NB326_329.out _; (with_reducible repeat (first | refine qa4 ?_ _ | refine qa5 ?_ | refine qa3 ?_ _)); exact BK326.out⟩
                have n4_ : qa0 ((((((((((w49.setCell ⟨gb329, 0, none⟩ (.int .i64 ((qae t321 x39_3).f0))).setCell ⟨gb329, 1, none⟩ (.int .u64 ((qae t321 x39_3).f1.f0))).setCell ⟨gb329, 2, none⟩ (.int .u64 ((qae t321 x39_3).f1.f1))).setCell ⟨gb329, 3, none⟩ (.int .u64 ((qae t321 x39_3).f1.f2))).setCell ⟨gb329, 4, none⟩ (.int .u64 ((qae t321 x39_3).f1.f3))).setCell ⟨gb329, 5, none⟩ (.int .i64 ((qae t321 x39_3).f2))).setCell ⟨gb329, 6, none⟩ (.int .i64 ((qae t321 x39_3).f3))).setCell ⟨gb329, 7, none⟩ (.int .i64 ((qae t321 x39_3).f4))).setCell ⟨gb329, 8, none⟩ (.slice A328_8 ((qae t321 x39_3).f5).length c328_8)).heap[gb327]? = some (.cells #[.int .i64 t324, .int .i64 t325] 30 (0, 0))) := ⟨by (with_reducible repeat (first | refine qa4 ?_ _ | refine qa5 ?_ | refine qa3 ?_ _)); refine qah ?_ NB327_329.out _; (with_reducible repeat (first | refine qa4 ?_ _ | refine qa5 ?_ | refine qa3 ?_ _)); refine qah ?_ NB327_329.out _; (with_reducible repeat (first | refine qa4 ?_ _ | refine qa5 ?_ | refine qa3 ?_ _)); refine qah ?_ NB327_329.out _; (with_reducible repeat (first | refine qa4 ?_ _ | refine qa5 ?_ | refine qa3 ?_ _)); refine qah ?_ NB327_329.out _; (with_reducible repeat (first | refine qa4 ?_ _ | refine qa5 ?_ | refine qa3 ?_ _)); refine qah ?_ NB327_329.out _; (with_reducible repeat (first | refine qa4 ?_ _ | refine qa5 ?_ | refine qa3 ?_ _)); refine qah ?_ NB327_329.out _; (with_reducible repeat (first | refine qa4 ?_ _ | refine qa5 ?_ | refine qa3 ?_ _)); refine qah ?_ NB327_329.out _; (with_reducible repeat (first | refine qa4 ?_ _ | refine qa5 ?_ | refine qa3 ?_ _)); refine qah ?_ NB327_329.out _; (with_reducible repeat (first | refine qa4 ?_ _ | refine qa5 ?_ | refine qa3 ?_ _)); refine qah ?_ NB327_329.out _; (with_reducible repeat (first | refine qa4 ?_ _ | refine qa5 ?_ | refine qa3 ?_ _)); exact BK327.out⟩
                have n5_ : qa0 ((((((((((w49.setCell ⟨gb329, 0, none⟩ (.int .i64 ((qae t321 x39_3).f0))).setCell ⟨gb329, 1, none⟩ (.int .u64 ((qae t321 x39_3).f1.f0))).setCell ⟨gb329, 2, none⟩ (.int .u64 ((qae t321 x39_3).f1.f1))).setCell ⟨gb329, 3, none⟩ (.int .u64 ((qae t321 x39_3).f1.f2))).setCell ⟨gb329, 4, none⟩ (.int .u64 ((qae t321 x39_3).f1.f3))).setCell ⟨gb329, 5, none⟩ (.int .i64 ((qae t321 x39_3).f2))).setCell ⟨gb329, 6, none⟩ (.int .i64 ((qae t321 x39_3).f3))).setCell ⟨gb329, 7, none⟩ (.int .i64 ((qae t321 x39_3).f4))).setCell ⟨gb329, 8, none⟩ (.slice A328_8 ((qae t321 x39_3).f5).length c328_8)).heap[gb329]? = some (.cells #[.int .i64 ((qae t321 x39_3).f0), .int .u64 ((qae t321 x39_3).f1.f0), .int .u64 ((qae t321 x39_3).f1.f1), .int .u64 ((qae t321 x39_3).f1.f2), .int .u64 ((qae t321 x39_3).f1.f3), .int .i64 ((qae t321 x39_3).f2), .int .i64 ((qae t321 x39_3).f3), .int .i64 ((qae t321 x39_3).f4), .slice A328_8 ((qae t321 x39_3).f5).length c328_8] 27 (0, 0))) := ⟨by (with_reducible repeat (first | refine qa4 ?_ _ | refine qa5 ?_ | refine qa3 ?_ _)); refine qaa (cs := #[.int .i64 ((qae t321 x39_3).f0), .int .u64 ((qae t321 x39_3).f1.f0), .int .u64 ((qae t321 x39_3).f1.f1), .int .u64 ((qae t321 x39_3).f1.f2), .int .u64 ((qae t321 x39_3).f1.f3), .int .i64 ((qae t321 x39_3).f2), .int .i64 ((qae t321 x39_3).f3), .int .i64 ((qae t321 x39_3).f4), .slice none 0 0]) ?_ 8 _ rfl; (with_reducible repeat (first | refine qa4 ?_ _ | refine qa5 ?_ | refine qa3 ?_ _)); refine qaa (cs := #[.int .i64 ((qae t321 x39_3).f0), .int .u64 ((qae t321 x39_3).f1.f0), .int .u64 ((qae t321 x39_3).f1.f1), .int .u64 ((qae t321 x39_3).f1.f2), .int .u64 ((qae t321 x39_3).f1.f3), .int .i64 ((qae t321 x39_3).f2), .int .i64 ((qae t321 x39_3).f3), .int .i64 0, .slice none 0 0]) ?_ 7 _ rfl; (with_reducible repeat (first | refine qa4 ?_ _ | refine qa5 ?_ | refine qa3 ?_ _)); refine qaa (cs := #[.int .i64 ((qae t321 x39_3).f0), .int .u64 ((qae t321 x39_3).f1.f0), .int .u64 ((qae t321 x39_3).f1.f1), .int .u64 ((qae t321 x39_3).f1.f2), .int .u64 ((qae t321 x39_3).f1.f3), .int .i64 ((qae t321 x39_3).f2), .int .i64 0, .int .i64 0, .slice none 0 0]) ?_ 6 _ rfl; (with_reducible repeat (first | refine qa4 ?_ _ | refine qa5 ?_ | refine qa3 ?_ _)); refine qaa (cs := #[.int .i64 ((qae t321 x39_3).f0), .int .u64 ((qae t321 x39_3).f1.f0), .int .u64 ((qae t321 x39_3).f1.f1), .int .u64 ((qae t321 x39_3).f1.f2), .int .u64 ((qae t321 x39_3).f1.f3), .int .i64 0, .int .i64 0, .int .i64 0, .slice none 0 0]) ?_ 5 _ rfl; (with_reducible repeat (first | refine qa4 ?_ _ | refine qa5 ?_ | refine qa3 ?_ _)); refine qaa (cs := #[.int .i64 ((qae t321 x39_3).f0), .int .u64 ((qae t321 x39_3).f1.f0), .int .u64 ((qae t321 x39_3).f1.f1), .int .u64 ((qae t321 x39_3).f1.f2), .int .u64 0, .int .i64 0, .int .i64 0, .int .i64 0, .slice none 0 0]) ?_ 4 _ rfl; (with_reducible repeat (first | refine qa4 ?_ _ | refine qa5 ?_ | refine qa3 ?_ _)); refine qaa (cs := #[.int .i64 ((qae t321 x39_3).f0), .int .u64 ((qae t321 x39_3).f1.f0), .int .u64 ((qae t321 x39_3).f1.f1), .int .u64 0, .int .u64 0, .int .i64 0, .int .i64 0, .int .i64 0, .slice none 0 0]) ?_ 3 _ rfl; (with_reducible repeat (first | refine qa4 ?_ _ | refine qa5 ?_ | refine qa3 ?_ _)); refine qaa (cs := #[.int .i64 ((qae t321 x39_3).f0), .int .u64 ((qae t321 x39_3).f1.f0), .int .u64 0, .int .u64 0, .int .u64 0, .int .i64 0, .int .i64 0, .int .i64 0, .slice none 0 0]) ?_ 2 _ rfl; (with_reducible repeat (first | refine qa4 ?_ _ | refine qa5 ?_ | refine qa3 ?_ _)); refine qaa (cs := #[.int .i64 ((qae t321 x39_3).f0), .int .u64 0, .int .u64 0, .int .u64 0, .int .u64 0, .int .i64 0, .int .i64 0, .int .i64 0, .slice none 0 0]) ?_ 1 _ rfl; (with_reducible repeat (first | refine qa4 ?_ _ | refine qa5 ?_ | refine qa3 ?_ _)); refine qaa (cs := #[.int .i64 0, .int .u64 0, .int .u64 0, .int .u64 0, .int .u64 0, .int .i64 0, .int .i64 0, .int .i64 0, .slice none 0 0]) ?_ 0 _ rfl; (with_reducible repeat (first | refine qa4 ?_ _ | refine qa5 ?_ | refine qa3 ?_ _)); exact BK329.out⟩
                have n6_ : qa0 (Below w.heap.size w (((((((((w49.setCell ⟨gb329, 0, none⟩ (.int .i64 ((qae t321 x39_3).f0))).setCell ⟨gb329, 1, none⟩ (.int .u64 ((qae t321 x39_3).f1.f0))).setCell ⟨gb329, 2, none⟩ (.int .u64 ((qae t321 x39_3).f1.f1))).setCell ⟨gb329, 3, none⟩ (.int .u64 ((qae t321 x39_3).f1.f2))).setCell ⟨gb329, 4, none⟩ (.int .u64 ((qae t321 x39_3).f1.f3))).setCell ⟨gb329, 5, none⟩ (.int .i64 ((qae t321 x39_3).f2))).setCell ⟨gb329, 6, none⟩ (.int .i64 ((qae t321 x39_3).f3))).setCell ⟨gb329, 7, none⟩ (.int .i64 ((qae t321 x39_3).f4))).setCell ⟨gb329, 8, none⟩ (.slice A328_8 ((qae t321 x39_3).f5).length c328_8))) := ⟨by repeat (first | (with_reducible first | exact HB.out | apply qa6 | apply qa7 | apply qa9 | refine qa8 ?_ GE326.out | refine qa8 ?_ GE327.out | refine qa8 ?_ GE329.out) | exact HB.out)⟩
                (try clear HO_37)
                (try clear HO_327008)
                (try clear HL328_8)
                (try clear BK326)
                (try clear BK327)
                (try clear BK329)
                (try clear HB)
                generalize (((((((((w49.setCell ⟨gb329, 0, none⟩ (.int .i64 ((qae t321 x39_3).f0))).setCell ⟨gb329, 1, none⟩ (.int .u64 ((qae t321 x39_3).f1.f0))).setCell ⟨gb329, 2, none⟩ (.int .u64 ((qae t321 x39_3).f1.f1))).setCell ⟨gb329, 3, none⟩ (.int .u64 ((qae t321 x39_3).f1.f2))).setCell ⟨gb329, 4, none⟩ (.int .u64 ((qae t321 x39_3).f1.f3))).setCell ⟨gb329, 5, none⟩ (.int .i64 ((qae t321 x39_3).f2))).setCell ⟨gb329, 6, none⟩ (.int .i64 ((qae t321 x39_3).f3))).setCell ⟨gb329, 7, none⟩ (.int .i64 ((qae t321 x39_3).f4))).setCell ⟨gb329, 8, none⟩ (.slice A328_8 ((qae t321 x39_3).f5).length c328_8)) = w53 at n0_ n1_ n2_ n3_ n4_ n5_ n6_ ⊢
                have HO_37 := n0_
                have HO_327008 := n1_
                have HL328_8 := n2_
                have BK326 := n3_
                have BK327 := n4_
                have BK329 := n5_
                have HB := n6_
                clear n0_ n1_ n2_ n3_ n4_ n5_ n6_
                have n0_ := qa0.mk (Kd.qbo HO_37.out)
                have n1_ := qa0.mk (Kd.qbo HO_327008.out)
                have n2_ := qa0.mk (Kd.qbo HL328_8.out)
                have n3_ := qa0.mk (qa5 BK326.out)
                have n4_ := qa0.mk (qa5 BK327.out)
                have n5_ := qa0.mk (qa5 BK329.out)
                have n6_ := qa0.mk (qa9 HB.out)
                clear HO_37
                clear HO_327008
                clear HL328_8
                clear BK326
                clear BK327
                clear BK329
                clear HB
                have HO_37 := n0_
                have HO_327008 := n1_
                have HL328_8 := n2_
                have BK326 := n3_
                have BK327 := n4_
                have BK329 := n5_
                have HB := n6_
                clear n0_ n1_ n2_ n3_ n4_ n5_ n6_
                refine qct (n := 14) (S := fun w' => w'.cell? ⟨gb329, 0, none⟩ = some (.int .i64 ((qae t321 x39_3).f0)) ∧ w'.cell? ⟨gb329, 1, none⟩ = some (.int .u64 ((qae t321 x39_3).f1.f0)) ∧ w'.cell? ⟨gb329, 2, none⟩ = some (.int .u64 ((qae t321 x39_3).f1.f1)) ∧ w'.cell? ⟨gb329, 3, none⟩ = some (.int .u64 ((qae t321 x39_3).f1.f2)) ∧ w'.cell? ⟨gb329, 4, none⟩ = some (.int .u64 ((qae t321 x39_3).f1.f3)) ∧ w'.cell? ⟨gb329, 5, none⟩ = some (.int .i64 ((qae t321 x39_3).f2)) ∧ w'.cell? ⟨gb329, 6, none⟩ = some (.int .i64 ((qae t321 x39_3).f3)) ∧ w'.cell? ⟨gb329, 7, none⟩ = some (.int .i64 ((qae t321 x39_3).f4)) ∧ w'.cell? ⟨gb329, 8, none⟩ = some (.slice A328_8 ((qae t321 x39_3).f5).length c328_8)) (ds := []) #[false, false, false, false, false, false, false, false, false, false, false, false, false, false] (by kernel_rfl) rfl rfl ⟨(qa2 BK329.out 0).trans rfl, (qa2 BK329.out 1).trans rfl, (qa2 BK329.out 2).trans rfl, (qa2 BK329.out 3).trans rfl, (qa2 BK329.out 4).trans rfl, (qa2 BK329.out 5).trans rfl, (qa2 BK329.out 6).trans rfl, (qa2 BK329.out 7).trans rfl, (qa2 BK329.out 8).trans rfl⟩ (fun hHeld => ?_); refine qc9 qaf.tab11 qaf.bits11 (fun HT_ HW_ => ?_)
                generalize w53.drew = w54 at HO_37 HO_327008 HL328_8 BK326 BK327 BK329 HB hHeld ⊢
                refine qe1 (i := 0) (N := some 44) (v := ?_) (a' := ?_) #[true, false, false, false, false, false, false, false, false, false, false, false, false, false] rfl rfl (qe8 HT_.out (by kernel_rfl)) (fun _ _ _ h => h) (Or.inl ⟨by rfl, ?_⟩) ?_ ?_
                rotate_left
                ·intro w'
                 go_simp
                 with_reducible rfl
                rotate_left
                ·simp only [Act.put, List.setIfInBounds_toArray, List.set_cons_zero, List.set_cons_succ, qbe, qcg]
                 rfl
                refine qh2 (i := 1) (N := some 45) (v := ?_) (a' := ?_) #[true, true, false, false, false, false, false, false, false, false, false, false, false, false] rfl rfl (take_ofW HT_.out HW_.out (by kernel_rfl)) (fun _ _ _ h => h) (Or.inl ⟨by rfl, ?_⟩) hHeld ?_ ?_
                rotate_left
                ·rintro w' ⟨s0, s1, s2, s3, s4, s5, s6, s7, s8⟩
                 go_simp
                 with_reducible rfl
                rotate_left
                ·simp only [Act.put, List.setIfInBounds_toArray, List.set_cons_zero, List.set_cons_succ, qbe, qcg]
                 rfl
                refine qe1 (i := 2) (N := some 46) (v := ?_) (a' := ?_) #[true, true, true, false, false, false, false, false, false, false, false, false, false, false] rfl rfl (qe8 HT_.out (by kernel_rfl)) (fun _ _ _ h => h) (Or.inl ⟨by rfl, ?_⟩) ?_ ?_
                rotate_left
                ·intro w'
                 go_simp
                 with_reducible rfl
                rotate_left
                ·simp only [Act.put, List.setIfInBounds_toArray, List.set_cons_zero, List.set_cons_succ, qbe, qcg]
                 rfl
                refine qe1 (i := 3) (N := some 47) (v := ?_) (a' := ?_) #[true, true, true, true, false, false, false, false, false, false, false, false, false, false] rfl rfl (qe8 HT_.out (by kernel_rfl)) (fun _ _ _ h => h) (Or.inl ⟨by rfl, ?_⟩) ?_ ?_
                rotate_left
                ·intro w'
                 go_simp
                 with_reducible rfl
                rotate_left
                ·simp only [Act.put, List.setIfInBounds_toArray, List.set_cons_zero, List.set_cons_succ, qbe, qcg]
                 rfl
                refine qe1 (i := 4) (N := some 48) (v := ?_) (a' := ?_) #[true, true, true, true, true, false, false, false, false, false, false, false, false, false] rfl rfl (qe8 HT_.out (by kernel_rfl)) (fun _ _ _ h => h) (Or.inl ⟨by rfl, ?_⟩) ?_ ?_
                rotate_left
                ·intro w'
                 go_simp
                 with_reducible rfl
                rotate_left
                ·simp only [Act.put, List.setIfInBounds_toArray, List.set_cons_zero, List.set_cons_succ, qbe, qcg]
                 rfl
                refine qe1 (i := 6) (N := some 50) (v := ?_) (a' := ?_) #[true, true, true, true, true, false, true, false, false, false, false, false, false, false] rfl rfl (qe8 HT_.out (by kernel_rfl)) (fun _ _ _ h => h) (Or.inl ⟨by rfl, ?_⟩) ?_ ?_
                rotate_left
                ·intro w'
                 go_simp
                 with_reducible rfl
                rotate_left
                ·simp only [Act.put, List.setIfInBounds_toArray, List.set_cons_zero, List.set_cons_succ, qbe, qcg]
                 rfl
                refine qe1 (i := 7) (N := some 51) (v := ?_) (a' := ?_) #[true, true, true, true, true, false, true, true, false, false, false, false, false, false] rfl rfl (qe8 HT_.out (by kernel_rfl)) (fun _ _ _ h => h) (Or.inl ⟨by rfl, ?_⟩) ?_ ?_
                rotate_left
                ·intro w'
                 go_simp
                 with_reducible rfl
                rotate_left
                ·simp only [Act.put, List.setIfInBounds_toArray, List.set_cons_zero, List.set_cons_succ, qbe, qcg]
                 rfl
                refine qe1 (i := 8) (N := some 52) (v := ?_) (a' := ?_) #[true, true, true, true, true, false, true, true, true, false, false, false, false, false] rfl rfl (qe8 HT_.out (by kernel_rfl)) (fun _ _ _ h => h) (Or.inl ⟨by rfl, ?_⟩) ?_ ?_
                rotate_left
                ·intro w'
                 go_simp
                 with_reducible rfl
                rotate_left
                ·simp only [Act.put, List.setIfInBounds_toArray, List.set_cons_zero, List.set_cons_succ, qbe, qcg]
                 rfl
                refine qe1 (i := 9) (N := some 53) (v := ?_) (a' := ?_) #[true, true, true, true, true, false, true, true, true, true, false, false, false, false] rfl rfl (qe8 HT_.out (by kernel_rfl)) (fun _ _ _ h => h) (Or.inl ⟨by rfl, ?_⟩) ?_ ?_
                rotate_left
                ·intro w'
                 go_simp
                 with_reducible rfl
                rotate_left
                ·simp only [Act.put, List.setIfInBounds_toArray, List.set_cons_zero, List.set_cons_succ, qbe, qcg]
                 rfl
                refine qe1 (i := 10) (N := some 54) (v := ?_) (a' := ?_) #[true, true, true, true, true, false, true, true, true, true, true, false, false, false] rfl rfl (qe8 HT_.out (by kernel_rfl)) (fun _ _ _ h => h) (Or.inl ⟨by rfl, ?_⟩) ?_ ?_
                rotate_left
                ·intro w'
                 go_simp
                 with_reducible rfl
                rotate_left
                ·simp only [Act.put, List.setIfInBounds_toArray, List.set_cons_zero, List.set_cons_succ, qbe, qcg]
                 rfl
                refine qh2 (i := 5) (N := some 49) (v := ?_) (a' := ?_) #[true, true, true, true, true, true, true, true, true, true, true, false, false, false] rfl rfl (take_ofW HT_.out HW_.out (by kernel_rfl)) (fun _ _ _ h => h) (Or.inl ⟨by rfl, ?_⟩) hHeld ?_ ?_
                rotate_left
                ·rintro w' ⟨s0, s1, s2, s3, s4, s5, s6, s7, s8⟩
                 go_simp
                 with_reducible rfl
                rotate_left
                ·simp only [Act.put, List.setIfInBounds_toArray, List.set_cons_zero, List.set_cons_succ, qbe, qcg]
                 rfl
                refine one_ (i := 11) (N := some 55) #[true, true, true, true, true, true, true, true, true, true, true, true, false, false] rfl rfl (one_of HT_.out (by kernel_rfl)) (by decide) (fun K hK => ?_)
                refine qdm Try.func19 (by kernel_rfl) rfl #[.string (x0_3.extract (x39_3 : Int).toNat ((wrap64 (x39_3 + 1)) : Int).toNat)] (by rfl) rfl rfl (by (try simp only [List.map_toArray, List.map_cons, List.map_nil]); first | done | rfl | (simp only [List.length_drop, List.length_take]; rfl)) ?_
                with_reducible refine (qb2.calls k3 (x0_3.extract (x39_3 : Int).toNat ((wrap64 (x39_3 + 1)) : Int).toNat) t330 t331 t332 t333 _ A40.out).mono ?_
                rintro e w55 ⟨rfl, hb⟩
                refine ⟨_, rfl, ?_⟩
                have n0_ := qa0.mk (Kd.qbi (by (with_reducible repeat (first | apply Kd.qbp | apply Kd.qbq | apply Kd.qbo)); exact HO_37.out) hb)
                have n1_ := qa0.mk (Kd.qbi (by (with_reducible repeat (first | apply Kd.qbp | apply Kd.qbq | apply Kd.qbo)); exact HO_327008.out) hb)
                have n2_ := qa0.mk (Kd.qbi (by (with_reducible repeat (first | apply Kd.qbp | apply Kd.qbq | apply Kd.qbo)); exact HL328_8.out) hb)
                have n3_ := qa0.mk (qai (g := gb326) (o := .cells #[.int .i64 t313, .int .u64 t314, .int .u64 t315, .int .u64 t316, .int .u64 t317, .int .i64 t318, .int .i64 t319, .int .i64 t320, .slice (some ad328) t321.length co18] 27 (0, 0)) (by (with_reducible repeat (first | refine qa4 ?_ _ | refine qa5 ?_ | refine qa3 ?_ _)); exact BK326.out) hb)
                have n4_ := qa0.mk (qai (g := gb327) (o := .cells #[.int .i64 t324, .int .i64 t325] 30 (0, 0)) (by (with_reducible repeat (first | refine qa4 ?_ _ | refine qa5 ?_ | refine qa3 ?_ _)); exact BK327.out) hb)
                have n5_ := qa0.mk (qai (g := gb329) (o := .cells #[.int .i64 ((qae t321 x39_3).f0), .int .u64 ((qae t321 x39_3).f1.f0), .int .u64 ((qae t321 x39_3).f1.f1), .int .u64 ((qae t321 x39_3).f1.f2), .int .u64 ((qae t321 x39_3).f1.f3), .int .i64 ((qae t321 x39_3).f2), .int .i64 ((qae t321 x39_3).f3), .int .i64 ((qae t321 x39_3).f4), .slice A328_8 ((qae t321 x39_3).f5).length c328_8] 27 (0, 0)) (by (with_reducible repeat (first | refine qa4 ?_ _ | refine qa5 ?_ | refine qa3 ?_ _)); exact BK329.out) hb)
                have n6_ := qa0.mk (qat (by repeat (first | (with_reducible first | exact HB.out | apply qa6 | apply qa7 | apply qa9 | refine qa8 ?_ GE326.out | refine qa8 ?_ GE327.out | refine qa8 ?_ GE329.out) | exact HB.out)) hb)
                clear HO_37
                clear HO_327008
                clear HL328_8
                clear BK326
                clear BK327
                clear BK329
                clear HB
                have HO_37 := n0_
                have HO_327008 := n1_
                have HL328_8 := n2_
                have BK326 := n3_
                have BK327 := n4_
                have BK329 := n5_
                have HB := n6_
                clear n0_ n1_ n2_ n3_ n4_ n5_ n6_
                (try clear hb)
                (try clear hb2)
                (try clear hk)
                (try clear hi)
                refine hK.out _ _ ⟨(qa2 BK329.out 0).trans rfl, (qa2 BK329.out 1).trans rfl, (qa2 BK329.out 2).trans rfl, (qa2 BK329.out 3).trans rfl, (qa2 BK329.out 4).trans rfl, (qa2 BK329.out 5).trans rfl, (qa2 BK329.out 6).trans rfl, (qa2 BK329.out 7).trans rfl, (qa2 BK329.out 8).trans rfl⟩ (fun hHeld => ?_)
                clear hK K
                refine norm_ (a' := ?_) ?_ ?_
                rotate_left
                ·show Act.put _ (some 55) _ = _
                 simp only [Act.put, List.setIfInBounds_toArray, List.set_cons_zero, List.set_cons_succ, qbe, qcg]
                 rfl
                refine qe1 (i := 12) (N := some 56) (v := ?_) (a' := ?_) #[true, true, true, true, true, true, true, true, true, true, true, true, true, false] rfl rfl (qe8 HT_.out (by kernel_rfl)) (fun _ _ _ h => h) (Or.inl ⟨by rfl, ?_⟩) ?_ ?_
                rotate_left
                ·intro w'
                 go_simp
                 with_reducible rfl
                rotate_left
                ·simp only [Act.put, List.setIfInBounds_toArray, List.set_cons_zero, List.set_cons_succ, qbe, qcg]
                 rfl
                refine qe1 (i := 13) (N := some 57) (v := ?_) (a' := ?_) #[true, true, true, true, true, true, true, true, true, true, true, true, true, true] rfl rfl (qe8 HT_.out (by kernel_rfl)) (fun _ _ _ h => h) (Or.inl ⟨by rfl, ?_⟩) ?_ ?_
                rotate_left
                ·intro w'
                 go_simp
                 with_reducible rfl
                rotate_left
                ·simp only [Act.put, List.setIfInBounds_toArray, List.set_cons_zero, List.set_cons_succ, qbe, qcg]
                 rfl
                refine done_ (done_of HT_.out (by kernel_rfl)) ?_
                try go_wp2
                go_roundg k3
                case measure => have := HJ3.out; have := HJ10.out; have := HK3.out; omega
                case rel => exact ⟨(wrap64 (x39_3 + 1)), (by first | rfl | (simp; done) | (simp [*]; done) | (exfalso; simp only [decide_eq_true_eq] at *; omega)), H', ⟨by have := HJ3.out; have := HJ10.out; have := HK3.out; omega⟩, ⟨by (with_reducible repeat (first | apply Kd.qbp | apply Kd.qbq | apply Kd.qbo)); exact Kd.qbg HO_37.out (fun _ hk => hk.1)⟩, ⟨by (with_reducible repeat (first | apply Kd.qbp | apply Kd.qbq | apply Kd.qbo)); exact Kd.qbg HO_327008.out (fun _ hk => hk.1)⟩, ⟨by (with_reducible repeat (first | refine qa4 ?_ _ | refine qa5 ?_ | refine qa3 ?_ _)); exact BK326.out⟩, ⟨by (with_reducible repeat (first | refine qa4 ?_ _ | refine qa5 ?_ | refine qa3 ?_ _)); exact BK327.out⟩, ⟨by repeat (first | (with_reducible first | exact HB.out | apply qa6 | apply qa7 | apply qa9 | refine qa8 ?_ GE326.out | refine qa8 ?_ GE327.out | refine qa8 ?_ GE329.out) | exact HB.out)⟩⟩
              ·rw [if_neg c39] at H
               exact absurd H (by simp)
             ·rw [if_neg c38] at H
              exact absurd H (by simp)
            ·rw [if_neg c36] at H
             have c36b0 : (((qae t321 x39_3).f0) == 1) = false := beq_eq_false_iff_ne.mpr c36
             have c36b1 : (((qae t321 x39_3).f0) != 1) = true := bne_iff_ne.mpr c36
             cases Option.some.inj H
           ·rw [if_neg c35] at H
            exact absurd H (by simp)
          ·rw [if_neg c34] at H
           exact absurd H (by simp)
         ·rw [if_neg c33] at H
          have c33b0 : decide (x39_3 < (t321.length : Int)) = false := decide_eq_false c33
          clear c33
          have hr_ := Option.some.inj H
          go_wp2
          go_ret
          exact ⟨by first | rfl | (simp only [wrap_wrap]; done) | (simp only [wrap_wrap]; rfl) | (simp [qak, qal] <;> rfl) | (simp [*, qak, qal] <;> rfl), by repeat (first | (with_reducible first | exact HB.out | apply qa6 | apply qa7 | apply qa9 | refine qa8 ?_ GE326.out | refine qa8 ?_ GE327.out) | exact HB.out)⟩
 ·replace c3 := Bool.eq_false_iff.mpr c3
  subst c3
  have H1 : (some false) = some true := by rw [if_neg (show ¬ (false = true) by decide)] at H; exact H
  clear H
  have H := H1
  clear H1
  cases Option.some.inj H
def qaf.Pure : Prop := ∀ (a0 : ByteArray), a0.size ≤ 140737488351232 → ∃ k, qaf.f k a0 = some true
theorem qaf.walk (P : qaf.Pure) (a0 : ByteArray) (w : World) (hMD : ML w) (w0 : a0.size ≤ 140737488351232) :
  Calls Try.prog 5 #[.string a0] w fun e w' => e = .returned (.bool true) ∧ Below w.heap.size w w' := by
 obtain ⟨k, h⟩ := P a0 w0
 refine (qaf.calls k a0 true w hMD h).mono ?_
 rintro e w' ⟨rfl, hd⟩
 exact ⟨rfl, hd⟩
end Go.Proofs.Ytcmipoicnonaeaa.F
end
