/- Texts of this claim, 16 of 18: F6. -/

import Derived.Test.YtcmipoicnonaeaaDoorKN4
import Derived.Test.YtcmipoicnonaeaaDoorKN10
import Derived.Test.YtcmipoicnonaeaaDoorKN12
import Derived.Test.YtcmipoicnonaeaaDoorKN14
import Derived.Test.YtcmipoicnonaeaaDoorKN15
section
namespace Go.Proofs.YtcmipoicnonaeaaDoor.F
open Go.RowKit Go.Proofs.YtcmipoicnonaeaaDoorW.PrintWords Go.Proofs.YtcmipoicnonaeaaDoorW.PrintLast Go.Proofs.YtcmipoicnonaeaaDoorW.PrintMore
attribute [local go_sem] max2_int min2_int max_two min_two max_three min_three max_four min_four
set_option linter.unusedVariables false
set_option linter.unusedSimpArgs false
attribute [local go_sem high] eqA24
mutual
def runnellaw03_BracketNots.j0 : Nat → ByteArray → ByteArray → ByteArray → Int → Bool → Int → Int → Int → Int → Option (Bool)
  | 0, _, _, _, _, _, _, _, _, _ => none
  | k + 1, x0, x1, x2, x8, x49, x351000, x351001, x351002, x351003 => if x49 = true then (some false) else (if 0 ≤ x8 then (if x8 ≤ (x0.size : Int) then (if x1.size + (x0.extract 0 (x8 : Int).toNat).size ≤ 9223372036854775807 then (if (x1 ++ (x0.extract 0 (x8 : Int).toNat)).size + x2.size ≤ 9223372036854775807 then ((bracket_Parse.f ((x1 ++ (x0.extract 0 (x8 : Int).toNat)) ++ x2) (x1.size : Int)).bind fun bt351 => (if bt351.2.2.2.2.2 = 0 then (if (!(bt351.1 == x351000) || (!(bt351.2.1 == x351001) || (!(bt351.2.2.1 == x351002) || (!(bt351.2.2.2.1 == x351003))))) = true then (runnellaw03_BracketNots.j1 k x8 (x0.extract 0 (x8 : Int).toNat) true x351000 x351001 x351002 x351003) else (runnellaw03_BracketNots.j1 k x8 (x0.extract 0 (x8 : Int).toNat) (bt351.2.2.2.2.1 != (wrap64 ((x1.size : Int) + x8))) x351000 x351001 x351002 x351003)) else (runnellaw03_BracketNots.j1 k x8 (x0.extract 0 (x8 : Int).toNat) true x351000 x351001 x351002 x351003))) else (none)) else (none)) else (none)) else (none))
def runnellaw03_BracketNots.j1 : Nat → Int → ByteArray → Bool → Int → Int → Int → Int → Option (Bool)
  | 0, _, _, _, _, _, _, _ => none
  | k + 1, x8, x10, x79, x351000, x351001, x351002, x351003 => if x79 = true then (some false) else (if 1 < (x10.size : Int) then (if (bt x10 1) = 94 then (some true) else (if 1 ≤ (x10.size : Int) then (if 2 + (x10.extract 1 x10.size).size ≤ 9223372036854775807 then ((bracket_Parse.f ((⟨#[91, 94]⟩ : ByteArray) ++ (x10.extract 1 x10.size)) 0).bind fun bt358 => (if bt358.2.2.2.2.2 = 0 then (if bt358.2.2.2.2.1 = (wrap64 (x8 + 1)) then ((runnelref02_Not.f k x351000 x351001 x351002 x351003).bind fun bt364 => (some (bt358.1 == bt364.1 && (bt358.2.1 == bt364.2.1 && (bt358.2.2.1 == bt364.2.2.1 && (bt358.2.2.2.1 == bt364.2.2.2)))))) else (some false)) else (some false))) else (none)) else (none))) else (none))
end
def runnellaw03_BracketNots.f (k : Nat) (a0 : ByteArray) (a1 : ByteArray) (a2 : ByteArray) : Option (Bool) := (runnellaw03_awake.f k).bind fun t343 => (if t343 = true then ((bracket_Parse.f a0 0).bind fun bt344 => (if bt344.2.2.2.2.2 = 0 then (if bt344.2.2.2.2.1 < 3 then (runnellaw03_BracketNots.j0 k a0 a1 a2 bt344.2.2.2.2.1 true bt344.1 bt344.2.1 bt344.2.2.1 bt344.2.2.2.1) else (if bt344.2.2.2.2.1 > (a0.size : Int) then (runnellaw03_BracketNots.j0 k a0 a1 a2 bt344.2.2.2.2.1 true bt344.1 bt344.2.1 bt344.2.2.1 bt344.2.2.2.1) else (if 0 < (a0.size : Int) then (if (bt a0 0) = 91 then (if 0 ≤ (wrap64 (bt344.2.2.2.2.1 - 1)) then (if (wrap64 (bt344.2.2.2.2.1 - 1)) < (a0.size : Int) then (runnellaw03_BracketNots.j0 k a0 a1 a2 bt344.2.2.2.2.1 ((bt a0 (wrap64 (bt344.2.2.2.2.1 - 1))) != 93) bt344.1 bt344.2.1 bt344.2.2.1 bt344.2.2.2.1) else (none)) else (none)) else (runnellaw03_BracketNots.j0 k a0 a1 a2 bt344.2.2.2.2.1 true bt344.1 bt344.2.1 bt344.2.2.1 bt344.2.2.2.1)) else (none)))) else (if bt344.2.2.2.2.1 = 0 then (some (bt344.1 == 0 && (bt344.2.1 == 0 && (bt344.2.2.1 == 0 && (bt344.2.2.2.1 == 0))))) else (some false)))) else (some false))
def runnellaw03_BracketNots.T15 : Bool × List (List Nat × List Nat) := (true, [([], []), ([0], [0]), ([1], [1]), ([2], [2]), ([2], [2]), ([4, 2], [2, 4]), ([3, 5, 2], [2, 3, 5]), ([2, 6], [2, 6]), ([7, 2], [7]), ([8], [8]), ([8], [8]), ([10, 8, 8], [8, 10]), ([9, 11, 8], [8, 9, 11]), ([8, 12], [8, 12]), ([13, 11, 0, 1, 2, 3, 4, 5, 6, 7, 8, 9, 10, 11, 12, 13], [13])])
def runnellaw03_BracketNots.B15 : List Nat := [0, 1, 3, 7, 7, 23, 63, 127, 255, 511, 511, 1535, 4095, 8191, 16383]
theorem runnellaw03_BracketNots.tab15 : rtab .any (opsOf Tryd.f6 15) = runnellaw03_BracketNots.T15 := by kernel_rfl
theorem runnellaw03_BracketNots.bits15 : waitsOk runnellaw03_BracketNots.T15.2 runnellaw03_BracketNots.B15 = true := by kernel_rfl
set_option maxHeartbeats 8000000 in
set_option maxRecDepth 100000 in
theorem runnellaw03_BracketNots.calls (k : Nat) (a0 : ByteArray) (a1 : ByteArray) (a2 : ByteArray) (r : Bool) (w : World) (hMD : MD w) (h : runnellaw03_BracketNots.f k a0 a1 a2 = some r) :
    Calls Tryd.prog 6 #[.string a0, .string a1, .string a2] w fun e w' => e = .returned (.bool r) ∧ Below w.heap.size w w' := by
  have HMD := Aside0.mk hMD
  clear hMD
  have hu24 := Tryd.underlying24
  have HB := Aside0.mk (Below.refl w.heap.size w)
  have H : ((runnellaw03_awake.f k).bind fun t343 => (if t343 = true then ((bracket_Parse.f a0 0).bind fun bt344 => (if bt344.2.2.2.2.2 = 0 then (if bt344.2.2.2.2.1 < 3 then (runnellaw03_BracketNots.j0 k a0 a1 a2 bt344.2.2.2.2.1 true bt344.1 bt344.2.1 bt344.2.2.1 bt344.2.2.2.1) else (if bt344.2.2.2.2.1 > (a0.size : Int) then (runnellaw03_BracketNots.j0 k a0 a1 a2 bt344.2.2.2.2.1 true bt344.1 bt344.2.1 bt344.2.2.1 bt344.2.2.2.1) else (if 0 < (a0.size : Int) then (if (bt a0 0) = 91 then (if 0 ≤ (wrap64 (bt344.2.2.2.2.1 - 1)) then (if (wrap64 (bt344.2.2.2.2.1 - 1)) < (a0.size : Int) then (runnellaw03_BracketNots.j0 k a0 a1 a2 bt344.2.2.2.2.1 ((bt a0 (wrap64 (bt344.2.2.2.2.1 - 1))) != 93) bt344.1 bt344.2.1 bt344.2.2.1 bt344.2.2.2.1) else (none)) else (none)) else (runnellaw03_BracketNots.j0 k a0 a1 a2 bt344.2.2.2.2.1 true bt344.1 bt344.2.1 bt344.2.2.1 bt344.2.2.2.1)) else (none)))) else (if bt344.2.2.2.2.1 = 0 then (some (bt344.1 == 0 && (bt344.2.1 == 0 && (bt344.2.2.1 == 0 && (bt344.2.2.2.1 == 0))))) else (some false)))) else (some false))) = some r := h
  clear h
  replace H := Option.bind_eq_some_iff.mp H
  obtain ⟨t343, A40, H⟩ := H
  replace H : (if t343 = true then ((bracket_Parse.f a0 0).bind fun bt344 => (if bt344.2.2.2.2.2 = 0 then (if bt344.2.2.2.2.1 < 3 then (runnellaw03_BracketNots.j0 k a0 a1 a2 bt344.2.2.2.2.1 true bt344.1 bt344.2.1 bt344.2.2.1 bt344.2.2.2.1) else (if bt344.2.2.2.2.1 > (a0.size : Int) then (runnellaw03_BracketNots.j0 k a0 a1 a2 bt344.2.2.2.2.1 true bt344.1 bt344.2.1 bt344.2.2.1 bt344.2.2.2.1) else (if 0 < (a0.size : Int) then (if (bt a0 0) = 91 then (if 0 ≤ (wrap64 (bt344.2.2.2.2.1 - 1)) then (if (wrap64 (bt344.2.2.2.2.1 - 1)) < (a0.size : Int) then (runnellaw03_BracketNots.j0 k a0 a1 a2 bt344.2.2.2.2.1 ((bt a0 (wrap64 (bt344.2.2.2.2.1 - 1))) != 93) bt344.1 bt344.2.1 bt344.2.2.1 bt344.2.2.2.1) else (none)) else (none)) else (runnellaw03_BracketNots.j0 k a0 a1 a2 bt344.2.2.2.2.1 true bt344.1 bt344.2.1 bt344.2.2.1 bt344.2.2.2.1)) else (none)))) else (if bt344.2.2.2.2.1 = 0 then (some (bt344.1 == 0 && (bt344.2.1 == 0 && (bt344.2.2.1 == 0 && (bt344.2.2.2.1 == 0))))) else (some false)))) else (some false)) = some r := H
  have A4 := Aside0.mk A40
  clear A40
  by_cases c5 : t343 = true
  · subst c5
    have H1 : ((bracket_Parse.f a0 0).bind fun bt344 => (if bt344.2.2.2.2.2 = 0 then (if bt344.2.2.2.2.1 < 3 then (runnellaw03_BracketNots.j0 k a0 a1 a2 bt344.2.2.2.2.1 true bt344.1 bt344.2.1 bt344.2.2.1 bt344.2.2.2.1) else (if bt344.2.2.2.2.1 > (a0.size : Int) then (runnellaw03_BracketNots.j0 k a0 a1 a2 bt344.2.2.2.2.1 true bt344.1 bt344.2.1 bt344.2.2.1 bt344.2.2.2.1) else (if 0 < (a0.size : Int) then (if (bt a0 0) = 91 then (if 0 ≤ (wrap64 (bt344.2.2.2.2.1 - 1)) then (if (wrap64 (bt344.2.2.2.2.1 - 1)) < (a0.size : Int) then (runnellaw03_BracketNots.j0 k a0 a1 a2 bt344.2.2.2.2.1 ((bt a0 (wrap64 (bt344.2.2.2.2.1 - 1))) != 93) bt344.1 bt344.2.1 bt344.2.2.1 bt344.2.2.2.1) else (none)) else (none)) else (runnellaw03_BracketNots.j0 k a0 a1 a2 bt344.2.2.2.2.1 true bt344.1 bt344.2.1 bt344.2.2.1 bt344.2.2.2.1)) else (none)))) else (if bt344.2.2.2.2.1 = 0 then (some (bt344.1 == 0 && (bt344.2.1 == 0 && (bt344.2.2.1 == 0 && (bt344.2.2.2.1 == 0))))) else (some false)))) = some r := by rw [if_pos rfl] at H; exact H
    clear H
    have H := H1
    clear H1
    replace H := Option.bind_eq_some_iff.mp H
    obtain ⟨⟨t344, t345, t346, t347, t348, t349⟩, A60, H⟩ := H
    replace H : (if t349 = 0 then (if t348 < 3 then (runnellaw03_BracketNots.j0 k a0 a1 a2 t348 true t344 t345 t346 t347) else (if t348 > (a0.size : Int) then (runnellaw03_BracketNots.j0 k a0 a1 a2 t348 true t344 t345 t346 t347) else (if 0 < (a0.size : Int) then (if (bt a0 0) = 91 then (if 0 ≤ (wrap64 (t348 - 1)) then (if (wrap64 (t348 - 1)) < (a0.size : Int) then (runnellaw03_BracketNots.j0 k a0 a1 a2 t348 ((bt a0 (wrap64 (t348 - 1))) != 93) t344 t345 t346 t347) else (none)) else (none)) else (runnellaw03_BracketNots.j0 k a0 a1 a2 t348 true t344 t345 t346 t347)) else (none)))) else (if t348 = 0 then (some (t344 == 0 && (t345 == 0 && (t346 == 0 && (t347 == 0))))) else (some false))) = some r := H
    have A6 := Aside0.mk A60
    clear A60
    by_cases c7 : t349 = 0
    · rw [if_pos c7] at H
      have c7b0 : (t349 == 0) = true := beq_iff_eq.mpr c7
      have c7b1 : (t349 != 0) = false := bne_eq_false_iff_eq.mpr c7
      clear c7
      have HC8 := Aside0.mk H
      clear H
      go_enter Tryd.func6, Tryd.ntmps6
      go_upto_region 6 with (first | ((with_reducible refine gate_callee (f := 12) rfl ?_); refine goesL_ (some 13) rfl rfl Tryd.func12 (by kernel_rfl) rfl #[] rfl (by (try simp only [List.map_toArray, List.map_cons, List.map_nil]); first | done | rfl | (simp only [List.length_drop, List.length_take]; rfl)) ?_; (with_reducible refine (runnellaw03_awake.calls k  true _ ?hmd A4.out).mono ?_); (case hmd => exact (HMD.out.below (by repeat (first | (with_reducible first | exact HB.out | apply below_alloc | apply pw_below_drewN | apply below_drew1) | exact HB.out)))); rintro e w9 ⟨rfl, hb⟩; refine ⟨_, rfl, ?_⟩; have n0_ := Aside0.mk (below_step (by repeat (first | (with_reducible first | exact HB.out | apply below_alloc | apply pw_below_drewN | apply below_drew1) | exact HB.out)) hb); clear HB; have HB := n0_; clear n0_; (try clear hb); (try clear hb2); (try clear hk); (try clear hi)) | ((with_reducible refine gate_callee (f := 10) rfl ?_); refine goesL_ (some 17) rfl rfl Tryd.func10 (by kernel_rfl) rfl #[.string a0, .int .i64 0] rfl (by (try simp only [List.map_toArray, List.map_cons, List.map_nil]); first | done | rfl | (simp only [List.length_drop, List.length_take]; rfl)) ?_; (with_reducible refine (bracket_Parse.calls a0 0 t344 t345 t346 t347 t348 t349 _ ?hmd A6.out).mono ?_); (case hmd => exact (HMD.out.below (by repeat (first | (with_reducible first | exact HB.out | apply below_alloc | apply pw_below_drewN | apply below_drew1) | exact HB.out))).1); rintro e w10 ⟨rfl, hb⟩; refine ⟨_, rfl, ?_⟩; have n0_ := Aside0.mk (below_step (by repeat (first | (with_reducible first | exact HB.out | apply below_alloc | apply pw_below_drewN | apply below_drew1) | exact HB.out)) hb); clear HB; have HB := n0_; clear n0_; (try clear hb); (try clear hb2); (try clear hk); (try clear hi)) | ((with_reducible refine gate_dst (N := 7) rfl ?_); (try (refine gate_guard (by rfl) ?_; dsimp only)); refine box_event ?hg (N := 7) ?hd (cs := #[.int .u64 0, .int .u64 0, .int .u64 0, .int .u64 0]) (t := 24) ?hr ?_; (case hd => rfl); (case hg => rfl); (case hr => first | (go_simp; done) | (go_simp; rfl)); intro gb350 hg w11 hbox hb; have n0_ := Aside0.mk (below_step (by repeat (first | (with_reducible first | exact HB.out | apply below_alloc | apply pw_below_drewN | apply below_drew1) | exact HB.out)) hb); have n1_ := Aside0.mk (hbox); have n2_ := Aside0.mk ((by rw [hg]; exact (below_size (by repeat (first | (with_reducible first | exact HB.out | apply below_alloc | apply pw_below_drewN | apply below_drew1) | exact HB.out))) : w.heap.size ≤ gb350)); have n3_ := Aside0.mk ((by rw [hg]; exact (below_size (by repeat (first | (with_reducible first | exact HB.out | apply below_alloc | apply pw_below_drewN | apply below_drew1) | exact HB.out))) : w.heap.size ≤ gb350)); clear HB; have HB := n0_; have BK350 := n1_; have GW350 := n2_; have GE350 := n3_; clear n0_ n1_ n2_ n3_; clear hb hbox hg; have hcz12_0 : w11.cell? ⟨gb350, 0, none⟩ = some (.int .u64 0) := (blk_cell BK350.out 0).trans rfl; have hcz12_1 : w11.cell? ⟨gb350, 1, none⟩ = some (.int .u64 0) := (blk_cell BK350.out 1).trans rfl; have hcz12_2 : w11.cell? ⟨gb350, 2, none⟩ = some (.int .u64 0) := (blk_cell BK350.out 2).trans rfl; have hcz12_3 : w11.cell? ⟨gb350, 3, none⟩ = some (.int .u64 0) := (blk_cell BK350.out 3).trans rfl; have hfz12_0 := blk_frozen BK350.out 0; have hfz12_1 := blk_frozen BK350.out 1; have hfz12_2 := blk_frozen BK350.out 2; have hfz12_3 := blk_frozen BK350.out 3))
      (try simp only [Act.put, List.setIfInBounds_toArray, List.set_cons_zero, List.set_cons_succ])
      go_cut [49] (fun v49 wc => ∃ (kq : Nat) (x49_7 : Bool), v49 = .bool x49_7 ∧ Aside0 (runnellaw03_BracketNots.j0 kq a0 a1 a2 t348 x49_7 t344 t345 t346 t347 = some r) ∧ Aside0 (kq ≤ k) ∧ Aside0 (wc.heap[gb350]? = some (.cells #[.int .u64 t344, .int .u64 t345, .int .u64 t346, .int .u64 t347] 24 (0, 0))) ∧ Aside0 (Below w.heap.size w wc))
      case first =>
        have H := HC8.out
        clear HC8
        by_cases c13 : t348 < 3
        · rw [if_pos c13] at H
          have c13b0 : decide (t348 < 3) = true := decide_eq_true c13
          clear c13
          (first | rw [c13b0] | (simp only [i64_w, i32_w]; rw [c13b0]) | skip)
          have H' := Aside0.mk H
          clear H
          go_wp2
          go_meet
          case rel => exact ⟨_, (true), (by first | rfl | (simp; done) | (simp [*]; done) | (exfalso; simp only [decide_eq_true_eq] at *; omega)), H', ⟨by first | omega | exact Nat.le_refl _⟩, ⟨by (with_reducible repeat (first | refine blk_drewN ?_ _ | refine blk_drew ?_ | refine blk_alloc ?_ _)); refine blk_put (cs := #[.int .u64 t344, .int .u64 t345, .int .u64 t346, .int .u64 0]) ?_ 3 _ rfl; (with_reducible repeat (first | refine blk_drewN ?_ _ | refine blk_drew ?_ | refine blk_alloc ?_ _)); refine blk_put (cs := #[.int .u64 t344, .int .u64 t345, .int .u64 0, .int .u64 0]) ?_ 2 _ rfl; (with_reducible repeat (first | refine blk_drewN ?_ _ | refine blk_drew ?_ | refine blk_alloc ?_ _)); refine blk_put (cs := #[.int .u64 t344, .int .u64 0, .int .u64 0, .int .u64 0]) ?_ 1 _ rfl; (with_reducible repeat (first | refine blk_drewN ?_ _ | refine blk_drew ?_ | refine blk_alloc ?_ _)); refine blk_put (cs := #[.int .u64 0, .int .u64 0, .int .u64 0, .int .u64 0]) ?_ 0 _ rfl; (with_reducible repeat (first | refine blk_drewN ?_ _ | refine blk_drew ?_ | refine blk_alloc ?_ _)); exact BK350.out⟩, ⟨by repeat (first | (with_reducible first | exact HB.out | apply below_alloc | apply pw_below_drewN | apply below_drew1 | refine below_set ?_ GE350.out) | exact HB.out)⟩⟩
        · rw [if_neg c13] at H
          have c13b0 : decide (t348 < 3) = false := decide_eq_false c13
          clear c13
          (first | rw [c13b0] | (simp only [i64_w, i32_w]; rw [c13b0]) | skip)
          by_cases c14 : t348 > (a0.size : Int)
          · rw [if_pos c14] at H
            have c14b0 : decide ((a0.size : Int) < t348) = true := decide_eq_true c14
            clear c14
            have H' := Aside0.mk H
            clear H
            go_wp2
            go_meet
            case rel => exact ⟨_, (true), (by first | rfl | (simp; done) | (simp [*]; done) | (exfalso; simp only [decide_eq_true_eq] at *; omega)), H', ⟨by first | omega | exact Nat.le_refl _⟩, ⟨by (with_reducible repeat (first | refine blk_drewN ?_ _ | refine blk_drew ?_ | refine blk_alloc ?_ _)); refine blk_put (cs := #[.int .u64 t344, .int .u64 t345, .int .u64 t346, .int .u64 0]) ?_ 3 _ rfl; (with_reducible repeat (first | refine blk_drewN ?_ _ | refine blk_drew ?_ | refine blk_alloc ?_ _)); refine blk_put (cs := #[.int .u64 t344, .int .u64 t345, .int .u64 0, .int .u64 0]) ?_ 2 _ rfl; (with_reducible repeat (first | refine blk_drewN ?_ _ | refine blk_drew ?_ | refine blk_alloc ?_ _)); refine blk_put (cs := #[.int .u64 t344, .int .u64 0, .int .u64 0, .int .u64 0]) ?_ 1 _ rfl; (with_reducible repeat (first | refine blk_drewN ?_ _ | refine blk_drew ?_ | refine blk_alloc ?_ _)); refine blk_put (cs := #[.int .u64 0, .int .u64 0, .int .u64 0, .int .u64 0]) ?_ 0 _ rfl; (with_reducible repeat (first | refine blk_drewN ?_ _ | refine blk_drew ?_ | refine blk_alloc ?_ _)); exact BK350.out⟩, ⟨by repeat (first | (with_reducible first | exact HB.out | apply below_alloc | apply pw_below_drewN | apply below_drew1 | refine below_set ?_ GE350.out) | exact HB.out)⟩⟩
          · rw [if_neg c14] at H
            have c14b0 : decide ((a0.size : Int) < t348) = false := decide_eq_false c14
            clear c14
            by_cases c15 : 0 < (a0.size : Int)
            · rw [if_pos c15] at H
              have c15b0 : decide (0 < (a0.size : Int)) = true := decide_eq_true c15
              have c15b1 : decide (0 < a0.size) = true := decide_eq_true (by omega)
              clear c15
              by_cases c17 : (bt a0 0) = 91
              · rw [if_pos c17] at H
                have c17b0 : ((bt a0 0) == 91) = true := beq_iff_eq.mpr c17
                have c17b1 : ((bt a0 0) != 91) = false := bne_eq_false_iff_eq.mpr c17
                clear c17
                obtain ⟨ji18, hji18⟩ : ∃ j_ : Int, (wrap64 (t348 - 1)) = j_ := ⟨_, rfl⟩
                replace H : (if 0 ≤ (ji18) then (if (ji18) < (a0.size : Int) then (runnellaw03_BracketNots.j0 k a0 a1 a2 t348 ((bt a0 (ji18)) != 93) t344 t345 t346 t347) else (none)) else (none)) = some r := by first | (rw [hji18] at H; exact H) | (simp only [hji18] at H ⊢; exact H)
                have hji18w : (IntKind.i64.wrap (t348 - 1)) = ji18 := (i64_w _).trans hji18
                by_cases c19 : 0 ≤ (ji18)
                · rw [if_pos c19] at H
                  have c19b0 : decide (0 ≤ (ji18)) = true := decide_eq_true c19
                  clear c19
                  by_cases c20 : (ji18) < (a0.size : Int)
                  · rw [if_pos c20] at H
                    have c20b0 : decide ((ji18) < (a0.size : Int)) = true := decide_eq_true c20
                    clear c20
                    have H' := Aside0.mk H
                    clear H
                    have p16 : 0 ≤ (0 : Int) := (by omega)
                    have q16 : 0 < a0.size := (by have : (0 : Int) < (a0.size : Int) := of_decide_eq_true (by first | (with_reducible assumption) | assumption); omega)
                    have hx16 : ∀ h : 0 < a0.size, ((a0[0]'h).toNat : Int) = bt a0 0 := bt_at a0 0
                    clear p16
                    have qi16 : (0 < (a0.size : Int)) = True := eq_true (of_decide_eq_true (by first | (with_reducible assumption) | assumption))
                    replace q16 := eq_true q16
                    have p21 : 0 ≤ ((ji18) : Int) := of_decide_eq_true (by first | (with_reducible assumption) | assumption)
                    have q21 : (ji18) < (a0.size : Int) := of_decide_eq_true (by first | (with_reducible assumption) | assumption)
                    have hx21 := bt_at a0 (ji18)
                    replace p21 := eq_true p21
                    replace q21 := eq_true q21
                    go_wp2
                    go_meet
                    case rel => exact ⟨_, (((bt a0 (ji18)) != 93)), (by first | rfl | (simp; done) | (simp only [← hji18] <;> (first | rfl | simp)) | (simp [*]; done)), (by first | exact H' | (simp only [hji18]; exact H')), ⟨by first | omega | exact Nat.le_refl _⟩, ⟨by (with_reducible repeat (first | refine blk_drewN ?_ _ | refine blk_drew ?_ | refine blk_alloc ?_ _)); refine blk_put (cs := #[.int .u64 t344, .int .u64 t345, .int .u64 t346, .int .u64 0]) ?_ 3 _ rfl; (with_reducible repeat (first | refine blk_drewN ?_ _ | refine blk_drew ?_ | refine blk_alloc ?_ _)); refine blk_put (cs := #[.int .u64 t344, .int .u64 t345, .int .u64 0, .int .u64 0]) ?_ 2 _ rfl; (with_reducible repeat (first | refine blk_drewN ?_ _ | refine blk_drew ?_ | refine blk_alloc ?_ _)); refine blk_put (cs := #[.int .u64 t344, .int .u64 0, .int .u64 0, .int .u64 0]) ?_ 1 _ rfl; (with_reducible repeat (first | refine blk_drewN ?_ _ | refine blk_drew ?_ | refine blk_alloc ?_ _)); refine blk_put (cs := #[.int .u64 0, .int .u64 0, .int .u64 0, .int .u64 0]) ?_ 0 _ rfl; (with_reducible repeat (first | refine blk_drewN ?_ _ | refine blk_drew ?_ | refine blk_alloc ?_ _)); exact BK350.out⟩, ⟨by repeat (first | (with_reducible first | exact HB.out | apply below_alloc | apply pw_below_drewN | apply below_drew1 | refine below_set ?_ GE350.out) | exact HB.out)⟩⟩
                  · rw [if_neg c20] at H
                    exact absurd H (by simp)
                · rw [if_neg c19] at H
                  exact absurd H (by simp)
              · rw [if_neg c17] at H
                have c17b0 : ((bt a0 0) == 91) = false := beq_eq_false_iff_ne.mpr c17
                have c17b1 : ((bt a0 0) != 91) = true := bne_iff_ne.mpr c17
                have H' := Aside0.mk H
                clear H
                have p16 : 0 ≤ (0 : Int) := (by omega)
                have q16 : 0 < a0.size := (by have : (0 : Int) < (a0.size : Int) := of_decide_eq_true (by first | (with_reducible assumption) | assumption); omega)
                have hx16 : ∀ h : 0 < a0.size, ((a0[0]'h).toNat : Int) = bt a0 0 := bt_at a0 0
                clear p16
                have qi16 : (0 < (a0.size : Int)) = True := eq_true (of_decide_eq_true (by first | (with_reducible assumption) | assumption))
                replace q16 := eq_true q16
                go_wp2
                go_meet
                case rel => exact ⟨_, (true), (by first | rfl | (simp; done) | (simp [*]; done) | (exfalso; simp only [decide_eq_true_eq] at *; omega)), H', ⟨by first | omega | exact Nat.le_refl _⟩, ⟨by (with_reducible repeat (first | refine blk_drewN ?_ _ | refine blk_drew ?_ | refine blk_alloc ?_ _)); refine blk_put (cs := #[.int .u64 t344, .int .u64 t345, .int .u64 t346, .int .u64 0]) ?_ 3 _ rfl; (with_reducible repeat (first | refine blk_drewN ?_ _ | refine blk_drew ?_ | refine blk_alloc ?_ _)); refine blk_put (cs := #[.int .u64 t344, .int .u64 t345, .int .u64 0, .int .u64 0]) ?_ 2 _ rfl; (with_reducible repeat (first | refine blk_drewN ?_ _ | refine blk_drew ?_ | refine blk_alloc ?_ _)); refine blk_put (cs := #[.int .u64 t344, .int .u64 0, .int .u64 0, .int .u64 0]) ?_ 1 _ rfl; (with_reducible repeat (first | refine blk_drewN ?_ _ | refine blk_drew ?_ | refine blk_alloc ?_ _)); refine blk_put (cs := #[.int .u64 0, .int .u64 0, .int .u64 0, .int .u64 0]) ?_ 0 _ rfl; (with_reducible repeat (first | refine blk_drewN ?_ _ | refine blk_drew ?_ | refine blk_alloc ?_ _)); exact BK350.out⟩, ⟨by repeat (first | (with_reducible first | exact HB.out | apply below_alloc | apply pw_below_drewN | apply below_drew1 | refine below_set ?_ GE350.out) | exact HB.out)⟩⟩
            · rw [if_neg c15] at H
              exact absurd H (by simp)
      case rest =>
        clear HC8
        try clear c1
        try clear p1
        try clear q1
        try clear hx1
        try clear qi1
        try clear c2
        try clear p2
        try clear q2
        try clear hx2
        try clear c5
        try clear c6
        try clear p6
        try clear c7
        try clear c7b0
        try clear c7b1
        try clear c10
        try clear c12
        try clear c13
        try clear c13b0
        try clear c14
        try clear c14b0
        try clear c15
        try clear c15b0
        try clear c15b1
        try clear p16
        try clear q16
        try clear hx16
        try clear qi16
        try clear c17
        try clear c17b0
        try clear c17b1
        try clear c19
        try clear c19b0
        try clear c20
        try clear c20b0
        try clear p21
        try clear q21
        try clear hx21
        try clear hcz12_0
        try clear hcz12_1
        try clear hcz12_2
        try clear hcz12_3
        try clear hfz12_0
        try clear hfz12_1
        try clear hfz12_2
        try clear hfz12_3
        try clear p16
        try clear p21
        try clear q16
        try clear q21
        obtain ⟨kq, x49_7, rfl, HA, HJ7, BK350, HB⟩ := hcut
        cases kq with
        | zero => exact absurd HA.out (by simp [runnellaw03_BracketNots.j0])
        | succ kj7 =>
          have H := HA.out
          clear HA
          simp only [runnellaw03_BracketNots.j0] at H
          by_cases c22 : x49_7 = true
          · subst c22
            have H1 : (some false) = some r := by rw [if_pos rfl] at H; exact H
            clear H
            have H := H1
            clear H1
            obtain rfl := Option.some.inj H
            go_wp2
            go_ret
            exact ⟨by first | rfl | (simp only [wrap_wrap]; done) | (simp only [wrap_wrap]; rfl) | (simp [errW_none, errW_some] <;> rfl) | (simp [*, errW_none, errW_some] <;> rfl), by repeat (first | (with_reducible first | exact HB.out | apply below_alloc | apply pw_below_drewN | apply below_drew1 | refine below_set ?_ GE350.out) | exact HB.out)⟩
          · replace c22 := Bool.eq_false_iff.mpr c22
            subst c22
            have H1 : (if 0 ≤ t348 then (if t348 ≤ (a0.size : Int) then (if a1.size + (a0.extract 0 (t348 : Int).toNat).size ≤ 9223372036854775807 then (if (a1 ++ (a0.extract 0 (t348 : Int).toNat)).size + a2.size ≤ 9223372036854775807 then ((bracket_Parse.f ((a1 ++ (a0.extract 0 (t348 : Int).toNat)) ++ a2) (a1.size : Int)).bind fun bt351 => (if bt351.2.2.2.2.2 = 0 then (if (!(bt351.1 == t344) || (!(bt351.2.1 == t345) || (!(bt351.2.2.1 == t346) || (!(bt351.2.2.2.1 == t347))))) = true then (runnellaw03_BracketNots.j1 kj7 t348 (a0.extract 0 (t348 : Int).toNat) true t344 t345 t346 t347) else (runnellaw03_BracketNots.j1 kj7 t348 (a0.extract 0 (t348 : Int).toNat) (bt351.2.2.2.2.1 != (wrap64 ((a1.size : Int) + t348))) t344 t345 t346 t347)) else (runnellaw03_BracketNots.j1 kj7 t348 (a0.extract 0 (t348 : Int).toNat) true t344 t345 t346 t347))) else (none)) else (none)) else (none)) else (none)) = some r := by rw [if_neg (show ¬ (false = true) by decide)] at H; exact H
            clear H
            have H := H1
            clear H1
            by_cases c23 : 0 ≤ t348
            · rw [if_pos c23] at H
              have c23b0 := eq_true c23
              have c23b1 : decide (0 ≤ t348) = true := decide_eq_true c23
              clear c23
              by_cases c24 : t348 ≤ (a0.size : Int)
              · rw [if_pos c24] at H
                have c24b0 := eq_true c24
                have c24b1 : decide (t348 ≤ (a0.size : Int)) = true := decide_eq_true c24
                clear c24
                by_cases c25 : a1.size + (a0.extract 0 (t348 : Int).toNat).size ≤ 9223372036854775807
                · rw [if_pos c25] at H
                  have c25b0 := eq_true c25
                  have c25b1 : decide (a1.size + (a0.extract 0 (t348 : Int).toNat).size ≤ 9223372036854775807) = true := decide_eq_true c25
                  try have c25b2 : (9223372036854775807 < a1.size + (a0.extract 0 (t348 : Int).toNat).size) = False := eq_false (Nat.not_lt.2 c25)
                  (try (have c25b3 := c25; simp only [ByteArray.size_append', ByteArray.size_mk', ByteArray.size_extract, List.size_toArray, List.length_cons, List.length_nil, Nat.reduceAdd] at c25b3; have c25b4 := eq_true c25b3; have c25b5 := eq_false (Nat.not_lt.2 c25b3)))
                  by_cases c26 : (a1 ++ (a0.extract 0 (t348 : Int).toNat)).size + a2.size ≤ 9223372036854775807
                  · rw [if_pos c26] at H
                    have c26b0 := eq_true c26
                    have c26b1 : decide ((a1 ++ (a0.extract 0 (t348 : Int).toNat)).size + a2.size ≤ 9223372036854775807) = true := decide_eq_true c26
                    try have c26b2 : (9223372036854775807 < (a1 ++ (a0.extract 0 (t348 : Int).toNat)).size + a2.size) = False := eq_false (Nat.not_lt.2 c26)
                    (try (have c26b3 := c26; simp only [ByteArray.size_append', ByteArray.size_mk', ByteArray.size_extract, List.size_toArray, List.length_cons, List.length_nil, Nat.reduceAdd] at c26b3; have c26b4 := eq_true c26b3; have c26b5 := eq_false (Nat.not_lt.2 c26b3)))
                    replace H := Option.bind_eq_some_iff.mp H
                    obtain ⟨⟨t351, t352, t353, t354, t355, t356⟩, A270, H⟩ := H
                    replace H : (if t356 = 0 then (if (!(t351 == t344) || (!(t352 == t345) || (!(t353 == t346) || (!(t354 == t347))))) = true then (runnellaw03_BracketNots.j1 kj7 t348 (a0.extract 0 (t348 : Int).toNat) true t344 t345 t346 t347) else (runnellaw03_BracketNots.j1 kj7 t348 (a0.extract 0 (t348 : Int).toNat) (t355 != (wrap64 ((a1.size : Int) + t348))) t344 t345 t346 t347)) else (runnellaw03_BracketNots.j1 kj7 t348 (a0.extract 0 (t348 : Int).toNat) true t344 t345 t346 t347)) = some r := H
                    have A27 := Aside0.mk A270
                    clear A270
                    have HC28 := Aside0.mk H
                    clear H
                    go_upto_region 10 with (first | ((with_reducible refine gate_callee (f := 10) rfl ?_); refine goesL_ (some 61) rfl rfl Tryd.func10 (by kernel_rfl) rfl #[.string ((a1 ++ (a0.extract 0 (t348 : Int).toNat)) ++ a2), .int .i64 (a1.size : Int)] rfl (by (try simp only [List.map_toArray, List.map_cons, List.map_nil]); first | done | rfl | (simp only [List.length_drop, List.length_take]; rfl)) ?_; (with_reducible refine (bracket_Parse.calls ((a1 ++ (a0.extract 0 (t348 : Int).toNat)) ++ a2) (a1.size : Int) t351 t352 t353 t354 t355 t356 _ ?hmd A27.out).mono ?_); (case hmd => exact (HMD.out.below (by repeat (first | (with_reducible first | exact HB.out | apply below_alloc | apply pw_below_drewN | apply below_drew1 | refine below_set ?_ GE350.out) | exact HB.out))).1); rintro e w29 ⟨rfl, hb⟩; refine ⟨_, rfl, ?_⟩; have n0_ := Aside0.mk (blk_below (g := gb350) (o := .cells #[.int .u64 t344, .int .u64 t345, .int .u64 t346, .int .u64 t347] 24 (0, 0)) (by (with_reducible repeat (first | refine blk_drewN ?_ _ | refine blk_drew ?_ | refine blk_alloc ?_ _)); exact BK350.out) hb); have n1_ := Aside0.mk (below_step (by repeat (first | (with_reducible first | exact HB.out | apply below_alloc | apply pw_below_drewN | apply below_drew1 | refine below_set ?_ GE350.out) | exact HB.out)) hb); clear BK350; clear HB; have BK350 := n0_; have HB := n1_; clear n0_ n1_; (try clear hb); (try clear hb2); (try clear hk); (try clear hi)) | ((with_reducible refine gate_dst (N := 11) rfl ?_); (try (refine gate_guard (by rfl) ?_; dsimp only)); refine box_event ?hg (N := 11) ?hd (cs := #[.int .u64 0, .int .u64 0, .int .u64 0, .int .u64 0]) (t := 24) ?hr ?_; (case hd => rfl); (case hg => rfl); (case hr => first | (go_simp; done) | (go_simp; rfl)); intro gb357 hg w30 hbox hb; have n0_ := Aside0.mk (blk_below (g := gb350) (o := .cells #[.int .u64 t344, .int .u64 t345, .int .u64 t346, .int .u64 t347] 24 (0, 0)) (by (with_reducible repeat (first | refine blk_drewN ?_ _ | refine blk_drew ?_ | refine blk_alloc ?_ _)); exact BK350.out) hb); have n1_ := Aside0.mk (below_step (by repeat (first | (with_reducible first | exact HB.out | apply below_alloc | apply pw_below_drewN | apply below_drew1 | refine below_set ?_ GE350.out) | exact HB.out)) hb); have n2_ := Aside0.mk (hbox); have n3_ := Aside0.mk ((by rw [hg]; exact (below_size (by repeat (first | (with_reducible first | exact HB.out | apply below_alloc | apply pw_below_drewN | apply below_drew1 | refine below_set ?_ GE350.out) | exact HB.out))) : w.heap.size ≤ gb357)); have n4_ := Aside0.mk ((by rw [hg]; exact (below_size (by repeat (first | (with_reducible first | exact HB.out | apply below_alloc | apply pw_below_drewN | apply below_drew1 | refine below_set ?_ GE350.out) | exact HB.out))) : w.heap.size ≤ gb357)); have n5_ := Aside0.mk ((by rw [hg]; exact Nat.ne_of_lt (blk_lt (g := gb350) (o := .cells #[.int .u64 t344, .int .u64 t345, .int .u64 t346, .int .u64 t347] 24 (0, 0)) (by (with_reducible repeat (first | refine blk_drewN ?_ _ | refine blk_drew ?_ | refine blk_alloc ?_ _)); exact BK350.out)) : gb350 ≠ gb357)); have n6_ := Aside0.mk ((by rw [hg]; exact Nat.ne_of_gt (blk_lt (g := gb350) (o := .cells #[.int .u64 t344, .int .u64 t345, .int .u64 t346, .int .u64 t347] 24 (0, 0)) (by (with_reducible repeat (first | refine blk_drewN ?_ _ | refine blk_drew ?_ | refine blk_alloc ?_ _)); exact BK350.out)) : gb357 ≠ gb350)); clear BK350; clear HB; have BK350 := n0_; have HB := n1_; have BK357 := n2_; have GW357 := n3_; have GE357 := n4_; have NB350_357 := n5_; have NB357_350 := n6_; clear n0_ n1_ n2_ n3_ n4_ n5_ n6_; clear hb hbox hg; have hnb31 := NB357_350.out; have hnc31 := NB350_357.out; have hcz32_0 : w30.cell? ⟨gb357, 0, none⟩ = some (.int .u64 0) := (blk_cell BK357.out 0).trans rfl; have hcz32_1 : w30.cell? ⟨gb357, 1, none⟩ = some (.int .u64 0) := (blk_cell BK357.out 1).trans rfl; have hcz32_2 : w30.cell? ⟨gb357, 2, none⟩ = some (.int .u64 0) := (blk_cell BK357.out 2).trans rfl; have hcz32_3 : w30.cell? ⟨gb357, 3, none⟩ = some (.int .u64 0) := (blk_cell BK357.out 3).trans rfl; have hfz32_0 := blk_frozen BK357.out 0; have hfz32_1 := blk_frozen BK357.out 1; have hfz32_2 := blk_frozen BK357.out 2; have hfz32_3 := blk_frozen BK357.out 3))
                    (try simp only [Act.put, List.setIfInBounds_toArray, List.set_cons_zero, List.set_cons_succ])
                    go_cut [79] (fun v79 wc => ∃ (kq : Nat) (x79_27 : Bool), v79 = .bool x79_27 ∧ Aside0 (runnellaw03_BracketNots.j1 kq t348 (a0.extract 0 (t348 : Int).toNat) x79_27 t344 t345 t346 t347 = some r) ∧ Aside0 (kq ≤ kj7) ∧ Aside0 (wc.heap[gb350]? = some (.cells #[.int .u64 t344, .int .u64 t345, .int .u64 t346, .int .u64 t347] 24 (0, 0))) ∧ Aside0 (wc.heap[gb357]? = some (.cells #[.int .u64 t351, .int .u64 t352, .int .u64 t353, .int .u64 t354] 24 (0, 0))) ∧ Aside0 (Below w.heap.size w wc))
                    case first =>
                      have H := HC28.out
                      clear HC28
                      by_cases c33 : t356 = 0
                      · rw [if_pos c33] at H
                        have c33b0 : (t356 == 0) = true := beq_iff_eq.mpr c33
                        have c33b1 : (t356 != 0) = false := bne_eq_false_iff_eq.mpr c33
                        clear c33
                        (first | rw [c33b0] | (simp only [i64_w, i32_w]; rw [c33b0]) | skip)
                        by_cases c34 : (!(t351 == t344) || (!(t352 == t345) || (!(t353 == t346) || (!(t354 == t347))))) = true
                        · rw [if_pos c34] at H
                          have c34b0 : (!(t351 == t344) || (!(t352 == t345) || (!(t353 == t346) || (!(t354 == t347))))) = true := c34
                          clear c34
                          have H' := Aside0.mk H
                          clear H
                          have hnb35 := NB357_350.out
                          have hnc35 := NB350_357.out
                          have hcz36_0 : w30.cell? ⟨gb357, 0, none⟩ = some (.int .u64 0) := (blk_cell BK357.out 0).trans rfl
                          have hcz36_1 : w30.cell? ⟨gb357, 1, none⟩ = some (.int .u64 0) := (blk_cell BK357.out 1).trans rfl
                          have hcz36_2 : w30.cell? ⟨gb357, 2, none⟩ = some (.int .u64 0) := (blk_cell BK357.out 2).trans rfl
                          have hcz36_3 : w30.cell? ⟨gb357, 3, none⟩ = some (.int .u64 0) := (blk_cell BK357.out 3).trans rfl
                          have hfz36_0 := blk_frozen BK357.out 0
                          have hfz36_1 := blk_frozen BK357.out 1
                          have hfz36_2 := blk_frozen BK357.out 2
                          have hfz36_3 := blk_frozen BK357.out 3
                          have hcz37_0 : w30.cell? ⟨gb350, 0, none⟩ = some (.int .u64 t344) := (blk_cell BK350.out 0).trans rfl
                          have hcz37_1 : w30.cell? ⟨gb350, 1, none⟩ = some (.int .u64 t345) := (blk_cell BK350.out 1).trans rfl
                          have hcz37_2 : w30.cell? ⟨gb350, 2, none⟩ = some (.int .u64 t346) := (blk_cell BK350.out 2).trans rfl
                          have hcz37_3 : w30.cell? ⟨gb350, 3, none⟩ = some (.int .u64 t347) := (blk_cell BK350.out 3).trans rfl
                          have hfz37_0 := blk_frozen BK350.out 0
                          have hfz37_1 := blk_frozen BK350.out 1
                          have hfz37_2 := blk_frozen BK350.out 2
                          have hfz37_3 := blk_frozen BK350.out 3
                          go_wp2
                          go_meet
                          case rel => exact ⟨_, (true), (by first | rfl | (simp; done) | (simp [*]; done) | (exfalso; simp only [decide_eq_true_eq] at *; omega)), H', ⟨by have := HJ7.out; first | omega | exact Nat.le_refl _⟩, ⟨by (with_reducible repeat (first | refine blk_drewN ?_ _ | refine blk_drew ?_ | refine blk_alloc ?_ _)); refine blk_far ?_ NB350_357.out _; (with_reducible repeat (first | refine blk_drewN ?_ _ | refine blk_drew ?_ | refine blk_alloc ?_ _)); refine blk_far ?_ NB350_357.out _; (with_reducible repeat (first | refine blk_drewN ?_ _ | refine blk_drew ?_ | refine blk_alloc ?_ _)); refine blk_far ?_ NB350_357.out _; (with_reducible repeat (first | refine blk_drewN ?_ _ | refine blk_drew ?_ | refine blk_alloc ?_ _)); refine blk_far ?_ NB350_357.out _; (with_reducible repeat (first | refine blk_drewN ?_ _ | refine blk_drew ?_ | refine blk_alloc ?_ _)); exact BK350.out⟩, ⟨by (with_reducible repeat (first | refine blk_drewN ?_ _ | refine blk_drew ?_ | refine blk_alloc ?_ _)); refine blk_put (cs := #[.int .u64 t351, .int .u64 t352, .int .u64 t353, .int .u64 0]) ?_ 3 _ rfl; (with_reducible repeat (first | refine blk_drewN ?_ _ | refine blk_drew ?_ | refine blk_alloc ?_ _)); refine blk_put (cs := #[.int .u64 t351, .int .u64 t352, .int .u64 0, .int .u64 0]) ?_ 2 _ rfl; (with_reducible repeat (first | refine blk_drewN ?_ _ | refine blk_drew ?_ | refine blk_alloc ?_ _)); refine blk_put (cs := #[.int .u64 t351, .int .u64 0, .int .u64 0, .int .u64 0]) ?_ 1 _ rfl; (with_reducible repeat (first | refine blk_drewN ?_ _ | refine blk_drew ?_ | refine blk_alloc ?_ _)); refine blk_put (cs := #[.int .u64 0, .int .u64 0, .int .u64 0, .int .u64 0]) ?_ 0 _ rfl; (with_reducible repeat (first | refine blk_drewN ?_ _ | refine blk_drew ?_ | refine blk_alloc ?_ _)); exact BK357.out⟩, ⟨by repeat (first | (with_reducible first | exact HB.out | apply below_alloc | apply pw_below_drewN | apply below_drew1 | refine below_set ?_ GE350.out | refine below_set ?_ GE357.out) | exact HB.out)⟩⟩
                        · rw [if_neg c34] at H
                          have c34b0 : (!(t351 == t344) || (!(t352 == t345) || (!(t353 == t346) || (!(t354 == t347))))) = false := by simpa using c34
                          clear c34
                          have H' := Aside0.mk H
                          clear H
                          have hnb38 := NB357_350.out
                          have hnc38 := NB350_357.out
                          have hcz39_0 : w30.cell? ⟨gb357, 0, none⟩ = some (.int .u64 0) := (blk_cell BK357.out 0).trans rfl
                          have hcz39_1 : w30.cell? ⟨gb357, 1, none⟩ = some (.int .u64 0) := (blk_cell BK357.out 1).trans rfl
                          have hcz39_2 : w30.cell? ⟨gb357, 2, none⟩ = some (.int .u64 0) := (blk_cell BK357.out 2).trans rfl
                          have hcz39_3 : w30.cell? ⟨gb357, 3, none⟩ = some (.int .u64 0) := (blk_cell BK357.out 3).trans rfl
                          have hfz39_0 := blk_frozen BK357.out 0
                          have hfz39_1 := blk_frozen BK357.out 1
                          have hfz39_2 := blk_frozen BK357.out 2
                          have hfz39_3 := blk_frozen BK357.out 3
                          have hcz40_0 : w30.cell? ⟨gb350, 0, none⟩ = some (.int .u64 t344) := (blk_cell BK350.out 0).trans rfl
                          have hcz40_1 : w30.cell? ⟨gb350, 1, none⟩ = some (.int .u64 t345) := (blk_cell BK350.out 1).trans rfl
                          have hcz40_2 : w30.cell? ⟨gb350, 2, none⟩ = some (.int .u64 t346) := (blk_cell BK350.out 2).trans rfl
                          have hcz40_3 : w30.cell? ⟨gb350, 3, none⟩ = some (.int .u64 t347) := (blk_cell BK350.out 3).trans rfl
                          have hfz40_0 := blk_frozen BK350.out 0
                          have hfz40_1 := blk_frozen BK350.out 1
                          have hfz40_2 := blk_frozen BK350.out 2
                          have hfz40_3 := blk_frozen BK350.out 3
                          go_wp2
                          go_meet
                          case rel => exact ⟨_, ((t355 != (wrap64 ((a1.size : Int) + t348)))), (by first | rfl | (simp; done) | (simp [*]; done) | (exfalso; simp only [decide_eq_true_eq] at *; omega)), H', ⟨by have := HJ7.out; first | omega | exact Nat.le_refl _⟩, ⟨by (with_reducible repeat (first | refine blk_drewN ?_ _ | refine blk_drew ?_ | refine blk_alloc ?_ _)); refine blk_far ?_ NB350_357.out _; (with_reducible repeat (first | refine blk_drewN ?_ _ | refine blk_drew ?_ | refine blk_alloc ?_ _)); refine blk_far ?_ NB350_357.out _; (with_reducible repeat (first | refine blk_drewN ?_ _ | refine blk_drew ?_ | refine blk_alloc ?_ _)); refine blk_far ?_ NB350_357.out _; (with_reducible repeat (first | refine blk_drewN ?_ _ | refine blk_drew ?_ | refine blk_alloc ?_ _)); refine blk_far ?_ NB350_357.out _; (with_reducible repeat (first | refine blk_drewN ?_ _ | refine blk_drew ?_ | refine blk_alloc ?_ _)); exact BK350.out⟩, ⟨by (with_reducible repeat (first | refine blk_drewN ?_ _ | refine blk_drew ?_ | refine blk_alloc ?_ _)); refine blk_put (cs := #[.int .u64 t351, .int .u64 t352, .int .u64 t353, .int .u64 0]) ?_ 3 _ rfl; (with_reducible repeat (first | refine blk_drewN ?_ _ | refine blk_drew ?_ | refine blk_alloc ?_ _)); refine blk_put (cs := #[.int .u64 t351, .int .u64 t352, .int .u64 0, .int .u64 0]) ?_ 2 _ rfl; (with_reducible repeat (first | refine blk_drewN ?_ _ | refine blk_drew ?_ | refine blk_alloc ?_ _)); refine blk_put (cs := #[.int .u64 t351, .int .u64 0, .int .u64 0, .int .u64 0]) ?_ 1 _ rfl; (with_reducible repeat (first | refine blk_drewN ?_ _ | refine blk_drew ?_ | refine blk_alloc ?_ _)); refine blk_put (cs := #[.int .u64 0, .int .u64 0, .int .u64 0, .int .u64 0]) ?_ 0 _ rfl; (with_reducible repeat (first | refine blk_drewN ?_ _ | refine blk_drew ?_ | refine blk_alloc ?_ _)); exact BK357.out⟩, ⟨by repeat (first | (with_reducible first | exact HB.out | apply below_alloc | apply pw_below_drewN | apply below_drew1 | refine below_set ?_ GE350.out | refine below_set ?_ GE357.out) | exact HB.out)⟩⟩
                      · rw [if_neg c33] at H
                        have c33b0 : (t356 == 0) = false := beq_eq_false_iff_ne.mpr c33
                        have c33b1 : (t356 != 0) = true := bne_iff_ne.mpr c33
                        (first | rw [c33b0] | (simp only [i64_w, i32_w]; rw [c33b0]) | skip)
                        have H' := Aside0.mk H
                        clear H
                        go_wp2
                        go_meet
                        case rel => exact ⟨_, (true), (by first | rfl | (simp; done) | (simp [*]; done) | (exfalso; simp only [decide_eq_true_eq] at *; omega)), H', ⟨by have := HJ7.out; first | omega | exact Nat.le_refl _⟩, ⟨by (with_reducible repeat (first | refine blk_drewN ?_ _ | refine blk_drew ?_ | refine blk_alloc ?_ _)); refine blk_far ?_ NB350_357.out _; (with_reducible repeat (first | refine blk_drewN ?_ _ | refine blk_drew ?_ | refine blk_alloc ?_ _)); refine blk_far ?_ NB350_357.out _; (with_reducible repeat (first | refine blk_drewN ?_ _ | refine blk_drew ?_ | refine blk_alloc ?_ _)); refine blk_far ?_ NB350_357.out _; (with_reducible repeat (first | refine blk_drewN ?_ _ | refine blk_drew ?_ | refine blk_alloc ?_ _)); refine blk_far ?_ NB350_357.out _; (with_reducible repeat (first | refine blk_drewN ?_ _ | refine blk_drew ?_ | refine blk_alloc ?_ _)); exact BK350.out⟩, ⟨by (with_reducible repeat (first | refine blk_drewN ?_ _ | refine blk_drew ?_ | refine blk_alloc ?_ _)); refine blk_put (cs := #[.int .u64 t351, .int .u64 t352, .int .u64 t353, .int .u64 0]) ?_ 3 _ rfl; (with_reducible repeat (first | refine blk_drewN ?_ _ | refine blk_drew ?_ | refine blk_alloc ?_ _)); refine blk_put (cs := #[.int .u64 t351, .int .u64 t352, .int .u64 0, .int .u64 0]) ?_ 2 _ rfl; (with_reducible repeat (first | refine blk_drewN ?_ _ | refine blk_drew ?_ | refine blk_alloc ?_ _)); refine blk_put (cs := #[.int .u64 t351, .int .u64 0, .int .u64 0, .int .u64 0]) ?_ 1 _ rfl; (with_reducible repeat (first | refine blk_drewN ?_ _ | refine blk_drew ?_ | refine blk_alloc ?_ _)); refine blk_put (cs := #[.int .u64 0, .int .u64 0, .int .u64 0, .int .u64 0]) ?_ 0 _ rfl; (with_reducible repeat (first | refine blk_drewN ?_ _ | refine blk_drew ?_ | refine blk_alloc ?_ _)); exact BK357.out⟩, ⟨by repeat (first | (with_reducible first | exact HB.out | apply below_alloc | apply pw_below_drewN | apply below_drew1 | refine below_set ?_ GE350.out | refine below_set ?_ GE357.out) | exact HB.out)⟩⟩
                    case rest =>
                      clear HC28
                      try clear c1
                      try clear p1
                      try clear q1
                      try clear hx1
                      try clear qi1
                      try clear c2
                      try clear p2
                      try clear q2
                      try clear hx2
                      try clear c3
                      try clear c5
                      try clear c6
                      try clear p6
                      try clear c7
                      try clear c7b0
                      try clear c7b1
                      try clear c10
                      try clear c12
                      try clear c13
                      try clear c13b0
                      try clear c14
                      try clear c14b0
                      try clear c15
                      try clear c15b0
                      try clear c15b1
                      try clear p16
                      try clear q16
                      try clear hx16
                      try clear qi16
                      try clear c17
                      try clear c17b0
                      try clear c17b1
                      try clear c19
                      try clear c19b0
                      try clear c20
                      try clear c20b0
                      try clear p21
                      try clear q21
                      try clear hx21
                      try clear c22
                      try clear c23
                      try clear c23b0
                      try clear c23b1
                      try clear c24
                      try clear c24b0
                      try clear c24b1
                      try clear c25
                      try clear c25b0
                      try clear c25b1
                      try clear c25b2
                      try clear c26
                      try clear c26b0
                      try clear c26b1
                      try clear c26b2
                      try clear c31
                      try clear c33
                      try clear c33b0
                      try clear c33b1
                      try clear c34
                      try clear c34b0
                      try clear c35
                      try clear c38
                      try clear hcz12_0
                      try clear hcz12_1
                      try clear hcz12_2
                      try clear hcz12_3
                      try clear hcz32_0
                      try clear hcz32_1
                      try clear hcz32_2
                      try clear hcz32_3
                      try clear hcz36_0
                      try clear hcz36_1
                      try clear hcz36_2
                      try clear hcz36_3
                      try clear hcz37_0
                      try clear hcz37_1
                      try clear hcz37_2
                      try clear hcz37_3
                      try clear hcz39_0
                      try clear hcz39_1
                      try clear hcz39_2
                      try clear hcz39_3
                      try clear hcz40_0
                      try clear hcz40_1
                      try clear hcz40_2
                      try clear hcz40_3
                      try clear hfz12_0
                      try clear hfz12_1
                      try clear hfz12_2
                      try clear hfz12_3
                      try clear hfz32_0
                      try clear hfz32_1
                      try clear hfz32_2
                      try clear hfz32_3
                      try clear hfz36_0
                      try clear hfz36_1
                      try clear hfz36_2
                      try clear hfz36_3
                      try clear hfz37_0
                      try clear hfz37_1
                      try clear hfz37_2
                      try clear hfz37_3
                      try clear hfz39_0
                      try clear hfz39_1
                      try clear hfz39_2
                      try clear hfz39_3
                      try clear hfz40_0
                      try clear hfz40_1
                      try clear hfz40_2
                      try clear hfz40_3
                      try clear p1
                      try clear p16
                      try clear p2
                      try clear p21
                      try clear p6
                      try clear q1
                      try clear q16
                      try clear q2
                      try clear q21
                      obtain ⟨kq, x79_27, rfl, HA, HJ27, BK350, BK357, HB⟩ := hcut
                      cases kq with
                      | zero => exact absurd HA.out (by simp [runnellaw03_BracketNots.j1])
                      | succ kj27 =>
                        have H := HA.out
                        clear HA
                        simp only [runnellaw03_BracketNots.j1] at H
                        by_cases c41 : x79_27 = true
                        · subst c41
                          have H1 : (some false) = some r := by rw [if_pos rfl] at H; exact H
                          clear H
                          have H := H1
                          clear H1
                          obtain rfl := Option.some.inj H
                          go_wp2
                          go_ret
                          exact ⟨by first | rfl | (simp only [wrap_wrap]; done) | (simp only [wrap_wrap]; rfl) | (simp [errW_none, errW_some] <;> rfl) | (simp [*, errW_none, errW_some] <;> rfl), by repeat (first | (with_reducible first | exact HB.out | apply below_alloc | apply pw_below_drewN | apply below_drew1 | refine below_set ?_ GE350.out | refine below_set ?_ GE357.out) | exact HB.out)⟩
                        · replace c41 := Bool.eq_false_iff.mpr c41
                          subst c41
                          have H1 : (if 1 < ((a0.extract 0 (t348 : Int).toNat).size : Int) then (if (bt (a0.extract 0 (t348 : Int).toNat) 1) = 94 then (some true) else (if 1 ≤ ((a0.extract 0 (t348 : Int).toNat).size : Int) then (if 2 + ((a0.extract 0 (t348 : Int).toNat).extract 1 (a0.extract 0 (t348 : Int).toNat).size).size ≤ 9223372036854775807 then ((bracket_Parse.f ((⟨#[91, 94]⟩ : ByteArray) ++ ((a0.extract 0 (t348 : Int).toNat).extract 1 (a0.extract 0 (t348 : Int).toNat).size)) 0).bind fun bt358 => (if bt358.2.2.2.2.2 = 0 then (if bt358.2.2.2.2.1 = (wrap64 (t348 + 1)) then ((runnelref02_Not.f kj27 t344 t345 t346 t347).bind fun bt364 => (some (bt358.1 == bt364.1 && (bt358.2.1 == bt364.2.1 && (bt358.2.2.1 == bt364.2.2.1 && (bt358.2.2.2.1 == bt364.2.2.2)))))) else (some false)) else (some false))) else (none)) else (none))) else (none)) = some r := by rw [if_neg (show ¬ (false = true) by decide)] at H; exact H
                          clear H
                          have H := H1
                          clear H1
                          obtain ⟨own, hown⟩ : ∃ o_ : ByteArray, a0.extract 0 (t348 : Int).toNat = o_ := ⟨_, rfl⟩
                          simp only [hown] at H ⊢
                          clear hown
                          (try clear c25b0)
                          (try clear c25b1)
                          (try clear c25b2)
                          (try clear c25b3)
                          (try clear c25b4)
                          (try clear c25b5)
                          (try clear c26b0)
                          (try clear c26b1)
                          (try clear c26b2)
                          (try clear c26b3)
                          (try clear c26b4)
                          (try clear c26b5)
                          by_cases c42 : 1 < (own.size : Int)
                          · rw [if_pos c42] at H
                            have c42b0 : decide (1 < (own.size : Int)) = true := decide_eq_true c42
                            have c42b1 : decide (1 < own.size) = true := decide_eq_true (by omega)
                            clear c42
                            by_cases c44 : (bt own 1) = 94
                            · rw [if_pos c44] at H
                              have c44b0 : ((bt own 1) == 94) = true := beq_iff_eq.mpr c44
                              have c44b1 : ((bt own 1) != 94) = false := bne_eq_false_iff_eq.mpr c44
                              clear c44
                              obtain rfl := Option.some.inj H
                              have p43 : 0 ≤ (1 : Int) := (by omega)
                              have q43 : 1 < own.size := (by have : (1 : Int) < (own.size : Int) := of_decide_eq_true (by first | (with_reducible assumption) | assumption); omega)
                              have hx43 : ∀ h : 1 < own.size, ((own[1]'h).toNat : Int) = bt own 1 := bt_at own 1
                              clear p43
                              have qi43 : (1 < (own.size : Int)) = True := eq_true (of_decide_eq_true (by first | (with_reducible assumption) | assumption))
                              replace q43 := eq_true q43
                              go_wp2
                              go_ret
                              exact ⟨by first | rfl | (simp only [wrap_wrap]; done) | (simp only [wrap_wrap]; rfl) | (simp [errW_none, errW_some] <;> rfl) | (simp [*, errW_none, errW_some] <;> rfl), by repeat (first | (with_reducible first | exact HB.out | apply below_alloc | apply pw_below_drewN | apply below_drew1 | refine below_set ?_ GE350.out | refine below_set ?_ GE357.out) | exact HB.out)⟩
                            · rw [if_neg c44] at H
                              have c44b0 : ((bt own 1) == 94) = false := beq_eq_false_iff_ne.mpr c44
                              have c44b1 : ((bt own 1) != 94) = true := bne_iff_ne.mpr c44
                              by_cases c45 : 1 ≤ (own.size : Int)
                              · rw [if_pos c45] at H
                                have c45b0 := eq_true c45
                                have c45b1 : decide (1 ≤ (own.size : Int)) = true := decide_eq_true c45
                                clear c45
                                by_cases c46 : 2 + (own.extract 1 own.size).size ≤ 9223372036854775807
                                · rw [if_pos c46] at H
                                  have c46b0 := eq_true c46
                                  have c46b1 : decide (2 + (own.extract 1 own.size).size ≤ 9223372036854775807) = true := decide_eq_true c46
                                  try have c46b2 : (9223372036854775807 < 2 + (own.extract 1 own.size).size) = False := eq_false (Nat.not_lt.2 c46)
                                  (try (have c46b3 := c46; simp only [ByteArray.size_append', ByteArray.size_mk', ByteArray.size_extract, List.size_toArray, List.length_cons, List.length_nil, Nat.reduceAdd] at c46b3; have c46b4 := eq_true c46b3; have c46b5 := eq_false (Nat.not_lt.2 c46b3)))
                                  replace H := Option.bind_eq_some_iff.mp H
                                  obtain ⟨⟨t358, t359, t360, t361, t362, t363⟩, A470, H⟩ := H
                                  replace H : (if t363 = 0 then (if t362 = (wrap64 (t348 + 1)) then ((runnelref02_Not.f kj27 t344 t345 t346 t347).bind fun bt364 => (some (t358 == bt364.1 && (t359 == bt364.2.1 && (t360 == bt364.2.2.1 && (t361 == bt364.2.2.2)))))) else (some false)) else (some false)) = some r := H
                                  have A47 := Aside0.mk A470
                                  clear A470
                                  by_cases c48 : t363 = 0
                                  · rw [if_pos c48] at H
                                    have c48b0 : (t363 == 0) = true := beq_iff_eq.mpr c48
                                    have c48b1 : (t363 != 0) = false := bne_eq_false_iff_eq.mpr c48
                                    clear c48
                                    by_cases c49 : t362 = (wrap64 (t348 + 1))
                                    · rw [if_pos c49] at H
                                      have c49b0 : (t362 == (wrap64 (t348 + 1))) = true := beq_iff_eq.mpr c49
                                      have c49b1 : (t362 != (wrap64 (t348 + 1))) = false := bne_eq_false_iff_eq.mpr c49
                                      clear c49
                                      replace H := Option.bind_eq_some_iff.mp H
                                      obtain ⟨⟨t364, t365, t366, t367⟩, A500, H⟩ := H
                                      replace H : (some (t358 == t364 && (t359 == t365 && (t360 == t366 && (t361 == t367))))) = some r := H
                                      have A50 := Aside0.mk A500
                                      clear A500
                                      obtain rfl := Option.some.inj H
                                      have p43 : 0 ≤ (1 : Int) := (by omega)
                                      have q43 : 1 < own.size := (by have : (1 : Int) < (own.size : Int) := of_decide_eq_true (by first | (with_reducible assumption) | assumption); omega)
                                      have hx43 : ∀ h : 1 < own.size, ((own[1]'h).toNat : Int) = bt own 1 := bt_at own 1
                                      clear p43
                                      have qi43 : (1 < (own.size : Int)) = True := eq_true (of_decide_eq_true (by first | (with_reducible assumption) | assumption))
                                      replace q43 := eq_true q43
                                      try go_wp2_with (first | ((with_reducible refine gate_callee (f := 10) rfl ?_); refine goesL_ (some 87) rfl rfl Tryd.func10 (by kernel_rfl) rfl #[.string ((⟨#[91, 94]⟩ : ByteArray) ++ (own.extract 1 own.size)), .int .i64 0] rfl (by (try simp only [List.map_toArray, List.map_cons, List.map_nil]); first | done | rfl | (simp only [List.length_drop, List.length_take]; rfl)) ?_; (with_reducible refine (bracket_Parse.calls ((⟨#[91, 94]⟩ : ByteArray) ++ (own.extract 1 own.size)) 0 t358 t359 t360 t361 t362 t363 _ ?hmd A47.out).mono ?_); (case hmd => exact (HMD.out.below (by repeat (first | (with_reducible first | exact HB.out | apply below_alloc | apply pw_below_drewN | apply below_drew1 | refine below_set ?_ GE350.out | refine below_set ?_ GE357.out) | exact HB.out))).1); rintro e w51 ⟨rfl, hb⟩; refine ⟨_, rfl, ?_⟩; have n0_ := Aside0.mk (blk_below (g := gb350) (o := .cells #[.int .u64 t344, .int .u64 t345, .int .u64 t346, .int .u64 t347] 24 (0, 0)) (by (with_reducible repeat (first | refine blk_drewN ?_ _ | refine blk_drew ?_ | refine blk_alloc ?_ _)); exact BK350.out) hb); have n1_ := Aside0.mk (blk_below (g := gb357) (o := .cells #[.int .u64 t351, .int .u64 t352, .int .u64 t353, .int .u64 t354] 24 (0, 0)) (by (with_reducible repeat (first | refine blk_drewN ?_ _ | refine blk_drew ?_ | refine blk_alloc ?_ _)); exact BK357.out) hb); have n2_ := Aside0.mk (below_step (by repeat (first | (with_reducible first | exact HB.out | apply below_alloc | apply pw_below_drewN | apply below_drew1 | refine below_set ?_ GE350.out | refine below_set ?_ GE357.out) | exact HB.out)) hb); clear BK350; clear BK357; clear HB; have BK350 := n0_; have BK357 := n1_; have HB := n2_; clear n0_ n1_ n2_; (try clear hb); (try clear hb2); (try clear hk); (try clear hi); have hnb52 := NB357_350.out; have hnc52 := NB350_357.out; have hcz53_0 : w51.cell? ⟨gb357, 0, none⟩ = some (.int .u64 t351) := (blk_cell BK357.out 0).trans rfl; have hcz53_1 : w51.cell? ⟨gb357, 1, none⟩ = some (.int .u64 t352) := (blk_cell BK357.out 1).trans rfl; have hcz53_2 : w51.cell? ⟨gb357, 2, none⟩ = some (.int .u64 t353) := (blk_cell BK357.out 2).trans rfl; have hcz53_3 : w51.cell? ⟨gb357, 3, none⟩ = some (.int .u64 t354) := (blk_cell BK357.out 3).trans rfl; have hfz53_0 := blk_frozen BK357.out 0; have hfz53_1 := blk_frozen BK357.out 1; have hfz53_2 := blk_frozen BK357.out 2; have hfz53_3 := blk_frozen BK357.out 3))
                                      have n0_ : Aside0 (((((w51.setCell ⟨gb357, 0, none⟩ (.int .u64 t358)).setCell ⟨gb357, 1, none⟩ (.int .u64 t359)).setCell ⟨gb357, 2, none⟩ (.int .u64 t360)).setCell ⟨gb357, 3, none⟩ (.int .u64 t361)).heap[gb350]? = some (.cells #[.int .u64 t344, .int .u64 t345, .int .u64 t346, .int .u64 t347] 24 (0, 0))) := ⟨by (with_reducible repeat (first | refine blk_drewN ?_ _ | refine blk_drew ?_ | refine blk_alloc ?_ _)); refine blk_far ?_ NB350_357.out _; (with_reducible repeat (first | refine blk_drewN ?_ _ | refine blk_drew ?_ | refine blk_alloc ?_ _)); refine blk_far ?_ NB350_357.out _; (with_reducible repeat (first | refine blk_drewN ?_ _ | refine blk_drew ?_ | refine blk_alloc ?_ _)); refine blk_far ?_ NB350_357.out _; (with_reducible repeat (first | refine blk_drewN ?_ _ | refine blk_drew ?_ | refine blk_alloc ?_ _)); refine blk_far ?_ NB350_357.out _; (with_reducible repeat (first | refine blk_drewN ?_ _ | refine blk_drew ?_ | refine blk_alloc ?_ _)); exact BK350.out⟩
                                      have n1_ : Aside0 (((((w51.setCell ⟨gb357, 0, none⟩ (.int .u64 t358)).setCell ⟨gb357, 1, none⟩ (.int .u64 t359)).setCell ⟨gb357, 2, none⟩ (.int .u64 t360)).setCell ⟨gb357, 3, none⟩ (.int .u64 t361)).heap[gb357]? = some (.cells #[.int .u64 t358, .int .u64 t359, .int .u64 t360, .int .u64 t361] 24 (0, 0))) := ⟨by (with_reducible repeat (first | refine blk_drewN ?_ _ | refine blk_drew ?_ | refine blk_alloc ?_ _)); refine blk_put (cs := #[.int .u64 t358, .int .u64 t359, .int .u64 t360, .int .u64 t354]) ?_ 3 _ rfl; (with_reducible repeat (first | refine blk_drewN ?_ _ | refine blk_drew ?_ | refine blk_alloc ?_ _)); refine blk_put (cs := #[.int .u64 t358, .int .u64 t359, .int .u64 t353, .int .u64 t354]) ?_ 2 _ rfl; (with_reducible repeat (first | refine blk_drewN ?_ _ | refine blk_drew ?_ | refine blk_alloc ?_ _)); refine blk_put (cs := #[.int .u64 t358, .int .u64 t352, .int .u64 t353, .int .u64 t354]) ?_ 1 _ rfl; (with_reducible repeat (first | refine blk_drewN ?_ _ | refine blk_drew ?_ | refine blk_alloc ?_ _)); refine blk_put (cs := #[.int .u64 t351, .int .u64 t352, .int .u64 t353, .int .u64 t354]) ?_ 0 _ rfl; (with_reducible repeat (first | refine blk_drewN ?_ _ | refine blk_drew ?_ | refine blk_alloc ?_ _)); exact BK357.out⟩
                                      have n2_ : Aside0 (Below w.heap.size w ((((w51.setCell ⟨gb357, 0, none⟩ (.int .u64 t358)).setCell ⟨gb357, 1, none⟩ (.int .u64 t359)).setCell ⟨gb357, 2, none⟩ (.int .u64 t360)).setCell ⟨gb357, 3, none⟩ (.int .u64 t361))) := ⟨by repeat (first | (with_reducible first | exact HB.out | apply below_alloc | apply pw_below_drewN | apply below_drew1 | refine below_set ?_ GE350.out | refine below_set ?_ GE357.out) | exact HB.out)⟩
                                      (try clear BK350)
                                      (try clear BK357)
                                      (try clear HB)
                                      generalize ((((w51.setCell ⟨gb357, 0, none⟩ (.int .u64 t358)).setCell ⟨gb357, 1, none⟩ (.int .u64 t359)).setCell ⟨gb357, 2, none⟩ (.int .u64 t360)).setCell ⟨gb357, 3, none⟩ (.int .u64 t361)) = w54 at n0_ n1_ n2_ ⊢
                                      have BK350 := n0_
                                      have BK357 := n1_
                                      have HB := n2_
                                      clear n0_ n1_ n2_
                                      have n0_ := Aside0.mk (blk_drew BK350.out)
                                      have n1_ := Aside0.mk (blk_drew BK357.out)
                                      have n2_ := Aside0.mk (below_drew1 HB.out)
                                      clear BK350
                                      clear BK357
                                      clear HB
                                      have BK350 := n0_
                                      have BK357 := n1_
                                      have HB := n2_
                                      clear n0_ n1_ n2_
                                      refine start_ (n := 15) (S := fun w' => w'.cell? ⟨gb357, 0, none⟩ = some (.int .u64 t358) ∧ w'.cell? ⟨gb357, 1, none⟩ = some (.int .u64 t359) ∧ w'.cell? ⟨gb357, 2, none⟩ = some (.int .u64 t360) ∧ w'.cell? ⟨gb357, 3, none⟩ = some (.int .u64 t361) ∧ w'.cell? ⟨gb350, 0, none⟩ = some (.int .u64 t344) ∧ w'.cell? ⟨gb350, 1, none⟩ = some (.int .u64 t345) ∧ w'.cell? ⟨gb350, 2, none⟩ = some (.int .u64 t346) ∧ w'.cell? ⟨gb350, 3, none⟩ = some (.int .u64 t347)) (ds := []) #[false, false, false, false, false, false, false, false, false, false, false, false, false, false, false] (by kernel_rfl) rfl rfl ⟨(blk_cell BK357.out 0).trans rfl, (blk_cell BK357.out 1).trans rfl, (blk_cell BK357.out 2).trans rfl, (blk_cell BK357.out 3).trans rfl, (blk_cell BK350.out 0).trans rfl, (blk_cell BK350.out 1).trans rfl, (blk_cell BK350.out 2).trans rfl, (blk_cell BK350.out 3).trans rfl⟩ (fun hHeld => ?_); refine with_tabW runnellaw03_BracketNots.tab15 runnellaw03_BracketNots.bits15 (fun HT_ HW_ => ?_)
                                      generalize w54.drew = w55 at BK350 BK357 HB hHeld ⊢
                                      refine pure_ (i := 0) (N := some 91) (v := ?_) (a' := ?_) #[true, false, false, false, false, false, false, false, false, false, false, false, false, false, false] rfl rfl (any_of HT_.out (by kernel_rfl)) (fun _ _ _ h => h) (Or.inl ⟨by rfl, ?_⟩) ?_ ?_
                                      rotate_left
                                      · intro w'
                                        go_simp
                                        with_reducible rfl
                                      rotate_left
                                      · simp only [Act.put, List.setIfInBounds_toArray, List.set_cons_zero, List.set_cons_succ, i64_w, i32_w]
                                        rfl
                                      refine pure_ (i := 1) (N := some 92) (v := ?_) (a' := ?_) #[true, true, false, false, false, false, false, false, false, false, false, false, false, false, false] rfl rfl (any_of HT_.out (by kernel_rfl)) (fun _ _ _ h => h) (Or.inl ⟨by rfl, ?_⟩) ?_ ?_
                                      rotate_left
                                      · intro w'
                                        go_simp
                                        with_reducible rfl
                                      rotate_left
                                      · simp only [Act.put, List.setIfInBounds_toArray, List.set_cons_zero, List.set_cons_succ, i64_w, i32_w]
                                        rfl
                                      refine pure_ (i := 2) (N := some 93) (v := ?_) (a' := ?_) #[true, true, true, false, false, false, false, false, false, false, false, false, false, false, false] rfl rfl (any_of HT_.out (by kernel_rfl)) (fun _ _ _ h => h) (Or.inl ⟨by rfl, ?_⟩) ?_ ?_
                                      rotate_left
                                      · intro w'
                                        go_simp
                                        with_reducible rfl
                                      rotate_left
                                      · simp only [Act.put, List.setIfInBounds_toArray, List.set_cons_zero, List.set_cons_succ, i64_w, i32_w]
                                        rfl
                                      refine pure_ (i := 3) (N := some 94) (v := ?_) (a' := ?_) #[true, true, true, true, false, false, false, false, false, false, false, false, false, false, false] rfl rfl (any_of HT_.out (by kernel_rfl)) (fun _ _ _ h => h) (Or.inl ⟨by rfl, ?_⟩) ?_ ?_
                                      rotate_left
                                      · intro w'
                                        go_simp
                                        with_reducible rfl
                                      rotate_left
                                      · simp only [Act.put, List.setIfInBounds_toArray, List.set_cons_zero, List.set_cons_succ, i64_w, i32_w]
                                        rfl
                                      refine pure_ (i := 4) (N := some 95) (v := ?_) (a' := ?_) #[true, true, true, true, true, false, false, false, false, false, false, false, false, false, false] rfl rfl (any_of HT_.out (by kernel_rfl)) (fun _ _ _ h => h) (Or.inl ⟨by rfl, ?_⟩) ?_ ?_
                                      rotate_left
                                      · intro w'
                                        go_simp
                                        with_reducible rfl
                                      rotate_left
                                      · simp only [Act.put, List.setIfInBounds_toArray, List.set_cons_zero, List.set_cons_succ, i64_w, i32_w]
                                        rfl
                                      refine pure_ (i := 5) (N := some 96) (v := ?_) (a' := ?_) #[true, true, true, true, true, true, false, false, false, false, false, false, false, false, false] rfl rfl (any_of HT_.out (by kernel_rfl)) (fun _ _ _ h => h) (Or.inl ⟨by rfl, ?_⟩) ?_ ?_
                                      rotate_left
                                      · intro w'
                                        go_simp
                                        with_reducible rfl
                                      rotate_left
                                      · simp only [Act.put, List.setIfInBounds_toArray, List.set_cons_zero, List.set_cons_succ, i64_w, i32_w]
                                        rfl
                                      refine pure_ (i := 6) (N := some 97) (v := ?_) (a' := ?_) #[true, true, true, true, true, true, true, false, false, false, false, false, false, false, false] rfl rfl (any_of HT_.out (by kernel_rfl)) (fun _ _ _ h => h) (Or.inl ⟨by rfl, ?_⟩) ?_ ?_
                                      rotate_left
                                      · intro w'
                                        go_simp
                                        with_reducible rfl
                                      rotate_left
                                      · simp only [Act.put, List.setIfInBounds_toArray, List.set_cons_zero, List.set_cons_succ, i64_w, i32_w]
                                        rfl
                                      refine pure_ (i := 7) (N := some 98) (v := ?_) (a' := ?_) #[true, true, true, true, true, true, true, true, false, false, false, false, false, false, false] rfl rfl (any_of HT_.out (by kernel_rfl)) (fun _ _ _ h => h) (Or.inl ⟨by rfl, ?_⟩) ?_ ?_
                                      rotate_left
                                      · intro w'
                                        go_simp
                                        with_reducible rfl
                                      rotate_left
                                      · simp only [Act.put, List.setIfInBounds_toArray, List.set_cons_zero, List.set_cons_succ, i64_w, i32_w]
                                        rfl
                                      refine pure_ (i := 8) (N := some 99) (v := ?_) (a' := ?_) #[true, true, true, true, true, true, true, true, true, false, false, false, false, false, false] rfl rfl (any_of HT_.out (by kernel_rfl)) (fun _ _ _ h => h) (Or.inl ⟨by rfl, ?_⟩) ?_ ?_
                                      rotate_left
                                      · intro w'
                                        go_simp
                                        with_reducible rfl
                                      rotate_left
                                      · simp only [Act.put, List.setIfInBounds_toArray, List.set_cons_zero, List.set_cons_succ, i64_w, i32_w]
                                        rfl
                                      refine take_ (i := 9) (N := some 100) (v := ?_) (a' := ?_) #[true, true, true, true, true, true, true, true, true, true, false, false, false, false, false] rfl rfl (take_ofW HT_.out HW_.out (by kernel_rfl)) (fun _ _ _ h => h) (Or.inl ⟨by rfl, ?_⟩) hHeld ?_ ?_
                                      rotate_left
                                      · rintro w' ⟨s0, s1, s2, s3, s4, s5, s6, s7⟩
                                        go_simp
                                        with_reducible rfl
                                      rotate_left
                                      · simp only [Act.put, List.setIfInBounds_toArray, List.set_cons_zero, List.set_cons_succ, i64_w, i32_w]
                                        rfl
                                      refine take_ (i := 10) (N := some 101) (v := ?_) (a' := ?_) #[true, true, true, true, true, true, true, true, true, true, true, false, false, false, false] rfl rfl (take_ofW HT_.out HW_.out (by kernel_rfl)) (fun _ _ _ h => h) (Or.inl ⟨by rfl, ?_⟩) hHeld ?_ ?_
                                      rotate_left
                                      · rintro w' ⟨s0, s1, s2, s3, s4, s5, s6, s7⟩
                                        go_simp
                                        with_reducible rfl
                                      rotate_left
                                      · simp only [Act.put, List.setIfInBounds_toArray, List.set_cons_zero, List.set_cons_succ, i64_w, i32_w]
                                        rfl
                                      refine one_ (i := 11) (N := some 102) #[true, true, true, true, true, true, true, true, true, true, true, true, false, false, false] rfl rfl (one_of HT_.out (by kernel_rfl)) (by decide) (fun K hK => ?_)
                                      refine goes_ Tryd.func15 (by kernel_rfl) rfl #[.agg #[.int .u64 t344, .int .u64 t345, .int .u64 t346, .int .u64 t347]] (by rfl) rfl rfl (by (try simp only [List.map_toArray, List.map_cons, List.map_nil]); first | done | rfl | (simp only [List.length_drop, List.length_take]; rfl)) ?_
                                      with_reducible refine (runnelref02_Not.calls kj27 t344 t345 t346 t347 t364 t365 t366 t367 _ A50.out).mono ?_
                                      rintro e w56 ⟨rfl, hb⟩
                                      refine ⟨_, rfl, ?_⟩
                                      have n0_ := Aside0.mk (blk_below (g := gb350) (o := .cells #[.int .u64 t344, .int .u64 t345, .int .u64 t346, .int .u64 t347] 24 (0, 0)) (by (with_reducible repeat (first | refine blk_drewN ?_ _ | refine blk_drew ?_ | refine blk_alloc ?_ _)); exact BK350.out) hb)
                                      have n1_ := Aside0.mk (blk_below (g := gb357) (o := .cells #[.int .u64 t358, .int .u64 t359, .int .u64 t360, .int .u64 t361] 24 (0, 0)) (by (with_reducible repeat (first | refine blk_drewN ?_ _ | refine blk_drew ?_ | refine blk_alloc ?_ _)); exact BK357.out) hb)
                                      have n2_ := Aside0.mk (below_step (by repeat (first | (with_reducible first | exact HB.out | apply below_alloc | apply pw_below_drewN | apply below_drew1 | refine below_set ?_ GE350.out | refine below_set ?_ GE357.out) | exact HB.out)) hb)
                                      clear BK350
                                      clear BK357
                                      clear HB
                                      have BK350 := n0_
                                      have BK357 := n1_
                                      have HB := n2_
                                      clear n0_ n1_ n2_
                                      (try clear hb)
                                      (try clear hb2)
                                      (try clear hk)
                                      (try clear hi)
                                      refine hK.out _ _ ⟨(blk_cell BK357.out 0).trans rfl, (blk_cell BK357.out 1).trans rfl, (blk_cell BK357.out 2).trans rfl, (blk_cell BK357.out 3).trans rfl, (blk_cell BK350.out 0).trans rfl, (blk_cell BK350.out 1).trans rfl, (blk_cell BK350.out 2).trans rfl, (blk_cell BK350.out 3).trans rfl⟩ (fun hHeld => ?_)
                                      clear hK K
                                      refine norm_ (a' := ?_) ?_ ?_
                                      rotate_left
                                      · show Act.put _ (some 102) _ = _
                                        simp only [Act.put, List.setIfInBounds_toArray, List.set_cons_zero, List.set_cons_succ, i64_w, i32_w]
                                        rfl
                                      refine pure_ (i := 12) (N := some 103) (v := ?_) (a' := ?_) #[true, true, true, true, true, true, true, true, true, true, true, true, true, false, false] rfl rfl (any_of HT_.out (by kernel_rfl)) (fun _ _ _ h => h) (Or.inl ⟨by rfl, ?_⟩) ?_ ?_
                                      rotate_left
                                      · intro w'
                                        go_simp
                                        with_reducible rfl
                                      rotate_left
                                      · simp only [Act.put, List.setIfInBounds_toArray, List.set_cons_zero, List.set_cons_succ, i64_w, i32_w]
                                        rfl
                                      refine pure_ (i := 13) (N := some 104) (v := ?_) (a' := ?_) #[true, true, true, true, true, true, true, true, true, true, true, true, true, true, false] rfl rfl (any_of HT_.out (by kernel_rfl)) (fun _ _ _ h => h) (Or.inl ⟨by rfl, ?_⟩) ?_ ?_
                                      rotate_left
                                      · intro w'
                                        go_simp
                                        with_reducible rfl
                                      rotate_left
                                      · simp only [Act.put, List.setIfInBounds_toArray, List.set_cons_zero, List.set_cons_succ, i64_w, i32_w]
                                        rfl
                                      refine pure_ (i := 14) (N := some 6) (v := ?_) (a' := ?_) #[true, true, true, true, true, true, true, true, true, true, true, true, true, true, true] rfl rfl (any_of HT_.out (by kernel_rfl)) (fun _ _ _ h => h) (Or.inl ⟨by rfl, ?_⟩) ?_ ?_
                                      rotate_left
                                      · intro w'
                                        go_simp
                                        with_reducible rfl
                                      rotate_left
                                      · simp only [Act.put, List.setIfInBounds_toArray, List.set_cons_zero, List.set_cons_succ, i64_w, i32_w]
                                        rfl
                                      refine done_ (done_of HT_.out (by kernel_rfl)) ?_
                                      try go_wp2
                                      go_ret
                                      exact ⟨by first | rfl | (simp only [wrap_wrap]; done) | (simp only [wrap_wrap]; rfl) | (simp [errW_none, errW_some] <;> rfl) | (simp [*, errW_none, errW_some] <;> rfl), by repeat (first | (with_reducible first | exact HB.out | apply below_alloc | apply pw_below_drewN | apply below_drew1 | refine below_set ?_ GE350.out | refine below_set ?_ GE357.out) | exact HB.out)⟩
                                    · rw [if_neg c49] at H
                                      have c49b0 : (t362 == (wrap64 (t348 + 1))) = false := beq_eq_false_iff_ne.mpr c49
                                      have c49b1 : (t362 != (wrap64 (t348 + 1))) = true := bne_iff_ne.mpr c49
                                      obtain rfl := Option.some.inj H
                                      have p43 : 0 ≤ (1 : Int) := (by omega)
                                      have q43 : 1 < own.size := (by have : (1 : Int) < (own.size : Int) := of_decide_eq_true (by first | (with_reducible assumption) | assumption); omega)
                                      have hx43 : ∀ h : 1 < own.size, ((own[1]'h).toNat : Int) = bt own 1 := bt_at own 1
                                      clear p43
                                      have qi43 : (1 < (own.size : Int)) = True := eq_true (of_decide_eq_true (by first | (with_reducible assumption) | assumption))
                                      replace q43 := eq_true q43
                                      try go_wp2_with (first | ((with_reducible refine gate_callee (f := 10) rfl ?_); refine goesL_ (some 87) rfl rfl Tryd.func10 (by kernel_rfl) rfl #[.string ((⟨#[91, 94]⟩ : ByteArray) ++ (own.extract 1 own.size)), .int .i64 0] rfl (by (try simp only [List.map_toArray, List.map_cons, List.map_nil]); first | done | rfl | (simp only [List.length_drop, List.length_take]; rfl)) ?_; (with_reducible refine (bracket_Parse.calls ((⟨#[91, 94]⟩ : ByteArray) ++ (own.extract 1 own.size)) 0 t358 t359 t360 t361 t362 t363 _ ?hmd A47.out).mono ?_); (case hmd => exact (HMD.out.below (by repeat (first | (with_reducible first | exact HB.out | apply below_alloc | apply pw_below_drewN | apply below_drew1 | refine below_set ?_ GE350.out | refine below_set ?_ GE357.out) | exact HB.out))).1); rintro e w57 ⟨rfl, hb⟩; refine ⟨_, rfl, ?_⟩; have n0_ := Aside0.mk (blk_below (g := gb350) (o := .cells #[.int .u64 t344, .int .u64 t345, .int .u64 t346, .int .u64 t347] 24 (0, 0)) (by (with_reducible repeat (first | refine blk_drewN ?_ _ | refine blk_drew ?_ | refine blk_alloc ?_ _)); exact BK350.out) hb); have n1_ := Aside0.mk (blk_below (g := gb357) (o := .cells #[.int .u64 t351, .int .u64 t352, .int .u64 t353, .int .u64 t354] 24 (0, 0)) (by (with_reducible repeat (first | refine blk_drewN ?_ _ | refine blk_drew ?_ | refine blk_alloc ?_ _)); exact BK357.out) hb); have n2_ := Aside0.mk (below_step (by repeat (first | (with_reducible first | exact HB.out | apply below_alloc | apply pw_below_drewN | apply below_drew1 | refine below_set ?_ GE350.out | refine below_set ?_ GE357.out) | exact HB.out)) hb); clear BK350; clear BK357; clear HB; have BK350 := n0_; have BK357 := n1_; have HB := n2_; clear n0_ n1_ n2_; (try clear hb); (try clear hb2); (try clear hk); (try clear hi); have hnb58 := NB357_350.out; have hnc58 := NB350_357.out; have hcz59_0 : w57.cell? ⟨gb357, 0, none⟩ = some (.int .u64 t351) := (blk_cell BK357.out 0).trans rfl; have hcz59_1 : w57.cell? ⟨gb357, 1, none⟩ = some (.int .u64 t352) := (blk_cell BK357.out 1).trans rfl; have hcz59_2 : w57.cell? ⟨gb357, 2, none⟩ = some (.int .u64 t353) := (blk_cell BK357.out 2).trans rfl; have hcz59_3 : w57.cell? ⟨gb357, 3, none⟩ = some (.int .u64 t354) := (blk_cell BK357.out 3).trans rfl; have hfz59_0 := blk_frozen BK357.out 0; have hfz59_1 := blk_frozen BK357.out 1; have hfz59_2 := blk_frozen BK357.out 2; have hfz59_3 := blk_frozen BK357.out 3))
                                      have n0_ : Aside0 (((((w57.setCell ⟨gb357, 0, none⟩ (.int .u64 t358)).setCell ⟨gb357, 1, none⟩ (.int .u64 t359)).setCell ⟨gb357, 2, none⟩ (.int .u64 t360)).setCell ⟨gb357, 3, none⟩ (.int .u64 t361)).heap[gb350]? = some (.cells #[.int .u64 t344, .int .u64 t345, .int .u64 t346, .int .u64 t347] 24 (0, 0))) := ⟨by (with_reducible repeat (first | refine blk_drewN ?_ _ | refine blk_drew ?_ | refine blk_alloc ?_ _)); refine blk_far ?_ NB350_357.out _; (with_reducible repeat (first | refine blk_drewN ?_ _ | refine blk_drew ?_ | refine blk_alloc ?_ _)); refine blk_far ?_ NB350_357.out _; (with_reducible repeat (first | refine blk_drewN ?_ _ | refine blk_drew ?_ | refine blk_alloc ?_ _)); refine blk_far ?_ NB350_357.out _; (with_reducible repeat (first | refine blk_drewN ?_ _ | refine blk_drew ?_ | refine blk_alloc ?_ _)); refine blk_far ?_ NB350_357.out _; (with_reducible repeat (first | refine blk_drewN ?_ _ | refine blk_drew ?_ | refine blk_alloc ?_ _)); exact BK350.out⟩
                                      have n1_ : Aside0 (((((w57.setCell ⟨gb357, 0, none⟩ (.int .u64 t358)).setCell ⟨gb357, 1, none⟩ (.int .u64 t359)).setCell ⟨gb357, 2, none⟩ (.int .u64 t360)).setCell ⟨gb357, 3, none⟩ (.int .u64 t361)).heap[gb357]? = some (.cells #[.int .u64 t358, .int .u64 t359, .int .u64 t360, .int .u64 t361] 24 (0, 0))) := ⟨by (with_reducible repeat (first | refine blk_drewN ?_ _ | refine blk_drew ?_ | refine blk_alloc ?_ _)); refine blk_put (cs := #[.int .u64 t358, .int .u64 t359, .int .u64 t360, .int .u64 t354]) ?_ 3 _ rfl; (with_reducible repeat (first | refine blk_drewN ?_ _ | refine blk_drew ?_ | refine blk_alloc ?_ _)); refine blk_put (cs := #[.int .u64 t358, .int .u64 t359, .int .u64 t353, .int .u64 t354]) ?_ 2 _ rfl; (with_reducible repeat (first | refine blk_drewN ?_ _ | refine blk_drew ?_ | refine blk_alloc ?_ _)); refine blk_put (cs := #[.int .u64 t358, .int .u64 t352, .int .u64 t353, .int .u64 t354]) ?_ 1 _ rfl; (with_reducible repeat (first | refine blk_drewN ?_ _ | refine blk_drew ?_ | refine blk_alloc ?_ _)); refine blk_put (cs := #[.int .u64 t351, .int .u64 t352, .int .u64 t353, .int .u64 t354]) ?_ 0 _ rfl; (with_reducible repeat (first | refine blk_drewN ?_ _ | refine blk_drew ?_ | refine blk_alloc ?_ _)); exact BK357.out⟩
                                      have n2_ : Aside0 (Below w.heap.size w ((((w57.setCell ⟨gb357, 0, none⟩ (.int .u64 t358)).setCell ⟨gb357, 1, none⟩ (.int .u64 t359)).setCell ⟨gb357, 2, none⟩ (.int .u64 t360)).setCell ⟨gb357, 3, none⟩ (.int .u64 t361))) := ⟨by repeat (first | (with_reducible first | exact HB.out | apply below_alloc | apply pw_below_drewN | apply below_drew1 | refine below_set ?_ GE350.out | refine below_set ?_ GE357.out) | exact HB.out)⟩
                                      (try clear BK350)
                                      (try clear BK357)
                                      (try clear HB)
                                      generalize ((((w57.setCell ⟨gb357, 0, none⟩ (.int .u64 t358)).setCell ⟨gb357, 1, none⟩ (.int .u64 t359)).setCell ⟨gb357, 2, none⟩ (.int .u64 t360)).setCell ⟨gb357, 3, none⟩ (.int .u64 t361)) = w60 at n0_ n1_ n2_ ⊢
                                      have BK350 := n0_
                                      have BK357 := n1_
                                      have HB := n2_
                                      clear n0_ n1_ n2_
                                      have n0_ := Aside0.mk (blk_drew BK350.out)
                                      have n1_ := Aside0.mk (blk_drew BK357.out)
                                      have n2_ := Aside0.mk (below_drew1 HB.out)
                                      clear BK350
                                      clear BK357
                                      clear HB
                                      have BK350 := n0_
                                      have BK357 := n1_
                                      have HB := n2_
                                      clear n0_ n1_ n2_
                                      refine start_ (n := 15) (S := fun w' => True) (ds := []) #[false, false, false, false, false, false, false, false, false, false, false, false, false, false, false] (by kernel_rfl) rfl rfl trivial (fun hHeld => ?_); refine with_tabW runnellaw03_BracketNots.tab15 runnellaw03_BracketNots.bits15 (fun HT_ HW_ => ?_)
                                      generalize w60.drew = w61 at BK350 BK357 HB hHeld ⊢
                                      refine pure_ (i := 0) (N := some 91) (v := ?_) (a' := ?_) #[true, false, false, false, false, false, false, false, false, false, false, false, false, false, false] rfl rfl (any_of HT_.out (by kernel_rfl)) (fun _ _ _ h => h) (Or.inl ⟨by rfl, ?_⟩) ?_ ?_
                                      rotate_left
                                      · intro w'
                                        go_simp
                                        with_reducible rfl
                                      rotate_left
                                      · simp only [Act.put, List.setIfInBounds_toArray, List.set_cons_zero, List.set_cons_succ, i64_w, i32_w]
                                        rfl
                                      refine pure_ (i := 1) (N := some 92) (v := ?_) (a' := ?_) #[true, true, false, false, false, false, false, false, false, false, false, false, false, false, false] rfl rfl (any_of HT_.out (by kernel_rfl)) (fun _ _ _ h => h) (Or.inl ⟨by rfl, ?_⟩) ?_ ?_
                                      rotate_left
                                      · intro w'
                                        go_simp
                                        with_reducible rfl
                                      rotate_left
                                      · simp only [Act.put, List.setIfInBounds_toArray, List.set_cons_zero, List.set_cons_succ, i64_w, i32_w]
                                        rfl
                                      refine pure_ (i := 2) (N := some 93) (v := ?_) (a' := ?_) #[true, true, true, false, false, false, false, false, false, false, false, false, false, false, false] rfl rfl (any_of HT_.out (by kernel_rfl)) (fun _ _ _ h => h) (Or.inl ⟨by rfl, ?_⟩) ?_ ?_
                                      rotate_left
                                      · intro w'
                                        go_simp
                                        with_reducible rfl
                                      rotate_left
                                      · simp only [Act.put, List.setIfInBounds_toArray, List.set_cons_zero, List.set_cons_succ, i64_w, i32_w]
                                        rfl
                                      refine pure_ (i := 3) (N := some 94) (v := ?_) (a' := ?_) #[true, true, true, true, false, false, false, false, false, false, false, false, false, false, false] rfl rfl (any_of HT_.out (by kernel_rfl)) (fun _ _ _ h => h) (Or.inl ⟨by rfl, ?_⟩) ?_ ?_
                                      rotate_left
                                      · intro w'
                                        go_simp
                                        with_reducible rfl
                                      rotate_left
                                      · simp only [Act.put, List.setIfInBounds_toArray, List.set_cons_zero, List.set_cons_succ, i64_w, i32_w]
                                        rfl
                                      refine pure_ (i := 4) (N := some 95) (v := ?_) (a' := ?_) #[true, true, true, true, true, false, false, false, false, false, false, false, false, false, false] rfl rfl (any_of HT_.out (by kernel_rfl)) (fun _ _ _ h => h) (Or.inl ⟨by rfl, ?_⟩) ?_ ?_
                                      rotate_left
                                      · intro w'
                                        go_simp
                                        with_reducible rfl
                                      rotate_left
                                      · simp only [Act.put, List.setIfInBounds_toArray, List.set_cons_zero, List.set_cons_succ, i64_w, i32_w]
                                        rfl
                                      refine pure_ (i := 5) (N := some 96) (v := ?_) (a' := ?_) #[true, true, true, true, true, true, false, false, false, false, false, false, false, false, false] rfl rfl (any_of HT_.out (by kernel_rfl)) (fun _ _ _ h => h) (Or.inl ⟨by rfl, ?_⟩) ?_ ?_
                                      rotate_left
                                      · intro w'
                                        go_simp
                                        with_reducible rfl
                                      rotate_left
                                      · simp only [Act.put, List.setIfInBounds_toArray, List.set_cons_zero, List.set_cons_succ, i64_w, i32_w]
                                        rfl
                                      refine pure_ (i := 6) (N := some 97) (v := ?_) (a' := ?_) #[true, true, true, true, true, true, true, false, false, false, false, false, false, false, false] rfl rfl (any_of HT_.out (by kernel_rfl)) (fun _ _ _ h => h) (Or.inl ⟨by rfl, ?_⟩) ?_ ?_
                                      rotate_left
                                      · intro w'
                                        go_simp
                                        with_reducible rfl
                                      rotate_left
                                      · simp only [Act.put, List.setIfInBounds_toArray, List.set_cons_zero, List.set_cons_succ, i64_w, i32_w]
                                        rfl
                                      refine pure_ (i := 7) (N := some 98) (v := ?_) (a' := ?_) #[true, true, true, true, true, true, true, true, false, false, false, false, false, false, false] rfl rfl (any_of HT_.out (by kernel_rfl)) (fun _ _ _ h => h) (Or.inl ⟨by rfl, ?_⟩) ?_ ?_
                                      rotate_left
                                      · intro w'
                                        go_simp
                                        with_reducible rfl
                                      rotate_left
                                      · simp only [Act.put, List.setIfInBounds_toArray, List.set_cons_zero, List.set_cons_succ, i64_w, i32_w]
                                        rfl
                                      refine pure_ (i := 8) (N := some 99) (v := ?_) (a' := ?_) #[true, true, true, true, true, true, true, true, true, false, false, false, false, false, false] rfl rfl (any_of HT_.out (by kernel_rfl)) (fun _ _ _ h => h) (Or.inl ⟨by rfl, ?_⟩) ?_ ?_
                                      rotate_left
                                      · intro w'
                                        go_simp
                                        with_reducible rfl
                                      rotate_left
                                      · simp only [Act.put, List.setIfInBounds_toArray, List.set_cons_zero, List.set_cons_succ, i64_w, i32_w]
                                        rfl
                                      refine pure_ (i := 9) (N := some 100) (v := undef) (a' := ?_) #[true, true, true, true, true, true, true, true, true, true, false, false, false, false, false] rfl rfl (any_of HT_.out (by kernel_rfl)) (fun _ _ _ h => h) (Or.inr ⟨by rfl, rfl⟩) ?_ ?_
                                      rotate_left
                                      · simp only [Act.put, List.setIfInBounds_toArray, List.set_cons_zero, List.set_cons_succ, i64_w, i32_w]
                                        rfl
                                      refine pure_ (i := 10) (N := some 101) (v := undef) (a' := ?_) #[true, true, true, true, true, true, true, true, true, true, true, false, false, false, false] rfl rfl (any_of HT_.out (by kernel_rfl)) (fun _ _ _ h => h) (Or.inr ⟨by rfl, rfl⟩) ?_ ?_
                                      rotate_left
                                      · simp only [Act.put, List.setIfInBounds_toArray, List.set_cons_zero, List.set_cons_succ, i64_w, i32_w]
                                        rfl
                                      refine pure_ (i := 11) (N := some 102) (v := undef) (a' := ?_) #[true, true, true, true, true, true, true, true, true, true, true, true, false, false, false] rfl rfl (any_of HT_.out (by kernel_rfl)) (fun _ _ _ h => h) (Or.inr ⟨by rfl, rfl⟩) ?_ ?_
                                      rotate_left
                                      · simp only [Act.put, List.setIfInBounds_toArray, List.set_cons_zero, List.set_cons_succ, i64_w, i32_w]
                                        rfl
                                      refine pure_ (i := 12) (N := some 103) (v := undef) (a' := ?_) #[true, true, true, true, true, true, true, true, true, true, true, true, true, false, false] rfl rfl (any_of HT_.out (by kernel_rfl)) (fun _ _ _ h => h) (Or.inr ⟨by rfl, rfl⟩) ?_ ?_
                                      rotate_left
                                      · simp only [Act.put, List.setIfInBounds_toArray, List.set_cons_zero, List.set_cons_succ, i64_w, i32_w]
                                        rfl
                                      refine pure_ (i := 13) (N := some 104) (v := ?_) (a' := ?_) #[true, true, true, true, true, true, true, true, true, true, true, true, true, true, false] rfl rfl (any_of HT_.out (by kernel_rfl)) (fun _ _ _ h => h) (Or.inl ⟨by rfl, ?_⟩) ?_ ?_
                                      rotate_left
                                      · intro w'
                                        go_simp
                                        with_reducible rfl
                                      rotate_left
                                      · simp only [Act.put, List.setIfInBounds_toArray, List.set_cons_zero, List.set_cons_succ, i64_w, i32_w]
                                        rfl
                                      refine pure_ (i := 14) (N := some 6) (v := ?_) (a' := ?_) #[true, true, true, true, true, true, true, true, true, true, true, true, true, true, true] rfl rfl (any_of HT_.out (by kernel_rfl)) (fun _ _ _ h => h) (Or.inl ⟨by rfl, ?_⟩) ?_ ?_
                                      rotate_left
                                      · intro w'
                                        go_simp
                                        with_reducible rfl
                                      rotate_left
                                      · simp only [Act.put, List.setIfInBounds_toArray, List.set_cons_zero, List.set_cons_succ, i64_w, i32_w]
                                        rfl
                                      refine done_ (done_of HT_.out (by kernel_rfl)) ?_
                                      try go_wp2
                                      go_ret
                                      exact ⟨by first | rfl | (simp only [wrap_wrap]; done) | (simp only [wrap_wrap]; rfl) | (simp [errW_none, errW_some] <;> rfl) | (simp [*, errW_none, errW_some] <;> rfl), by repeat (first | (with_reducible first | exact HB.out | apply below_alloc | apply pw_below_drewN | apply below_drew1 | refine below_set ?_ GE350.out | refine below_set ?_ GE357.out) | exact HB.out)⟩
                                  · rw [if_neg c48] at H
                                    have c48b0 : (t363 == 0) = false := beq_eq_false_iff_ne.mpr c48
                                    have c48b1 : (t363 != 0) = true := bne_iff_ne.mpr c48
                                    obtain rfl := Option.some.inj H
                                    have p43 : 0 ≤ (1 : Int) := (by omega)
                                    have q43 : 1 < own.size := (by have : (1 : Int) < (own.size : Int) := of_decide_eq_true (by first | (with_reducible assumption) | assumption); omega)
                                    have hx43 : ∀ h : 1 < own.size, ((own[1]'h).toNat : Int) = bt own 1 := bt_at own 1
                                    clear p43
                                    have qi43 : (1 < (own.size : Int)) = True := eq_true (of_decide_eq_true (by first | (with_reducible assumption) | assumption))
                                    replace q43 := eq_true q43
                                    try go_wp2_with (first | ((with_reducible refine gate_callee (f := 10) rfl ?_); refine goesL_ (some 87) rfl rfl Tryd.func10 (by kernel_rfl) rfl #[.string ((⟨#[91, 94]⟩ : ByteArray) ++ (own.extract 1 own.size)), .int .i64 0] rfl (by (try simp only [List.map_toArray, List.map_cons, List.map_nil]); first | done | rfl | (simp only [List.length_drop, List.length_take]; rfl)) ?_; (with_reducible refine (bracket_Parse.calls ((⟨#[91, 94]⟩ : ByteArray) ++ (own.extract 1 own.size)) 0 t358 t359 t360 t361 t362 t363 _ ?hmd A47.out).mono ?_); (case hmd => exact (HMD.out.below (by repeat (first | (with_reducible first | exact HB.out | apply below_alloc | apply pw_below_drewN | apply below_drew1 | refine below_set ?_ GE350.out | refine below_set ?_ GE357.out) | exact HB.out))).1); rintro e w62 ⟨rfl, hb⟩; refine ⟨_, rfl, ?_⟩; have n0_ := Aside0.mk (blk_below (g := gb350) (o := .cells #[.int .u64 t344, .int .u64 t345, .int .u64 t346, .int .u64 t347] 24 (0, 0)) (by (with_reducible repeat (first | refine blk_drewN ?_ _ | refine blk_drew ?_ | refine blk_alloc ?_ _)); exact BK350.out) hb); have n1_ := Aside0.mk (blk_below (g := gb357) (o := .cells #[.int .u64 t351, .int .u64 t352, .int .u64 t353, .int .u64 t354] 24 (0, 0)) (by (with_reducible repeat (first | refine blk_drewN ?_ _ | refine blk_drew ?_ | refine blk_alloc ?_ _)); exact BK357.out) hb); have n2_ := Aside0.mk (below_step (by repeat (first | (with_reducible first | exact HB.out | apply below_alloc | apply pw_below_drewN | apply below_drew1 | refine below_set ?_ GE350.out | refine below_set ?_ GE357.out) | exact HB.out)) hb); clear BK350; clear BK357; clear HB; have BK350 := n0_; have BK357 := n1_; have HB := n2_; clear n0_ n1_ n2_; (try clear hb); (try clear hb2); (try clear hk); (try clear hi); have hnb63 := NB357_350.out; have hnc63 := NB350_357.out; have hcz64_0 : w62.cell? ⟨gb357, 0, none⟩ = some (.int .u64 t351) := (blk_cell BK357.out 0).trans rfl; have hcz64_1 : w62.cell? ⟨gb357, 1, none⟩ = some (.int .u64 t352) := (blk_cell BK357.out 1).trans rfl; have hcz64_2 : w62.cell? ⟨gb357, 2, none⟩ = some (.int .u64 t353) := (blk_cell BK357.out 2).trans rfl; have hcz64_3 : w62.cell? ⟨gb357, 3, none⟩ = some (.int .u64 t354) := (blk_cell BK357.out 3).trans rfl; have hfz64_0 := blk_frozen BK357.out 0; have hfz64_1 := blk_frozen BK357.out 1; have hfz64_2 := blk_frozen BK357.out 2; have hfz64_3 := blk_frozen BK357.out 3))
                                    have n0_ : Aside0 (((((w62.setCell ⟨gb357, 0, none⟩ (.int .u64 t358)).setCell ⟨gb357, 1, none⟩ (.int .u64 t359)).setCell ⟨gb357, 2, none⟩ (.int .u64 t360)).setCell ⟨gb357, 3, none⟩ (.int .u64 t361)).heap[gb350]? = some (.cells #[.int .u64 t344, .int .u64 t345, .int .u64 t346, .int .u64 t347] 24 (0, 0))) := ⟨by (with_reducible repeat (first | refine blk_drewN ?_ _ | refine blk_drew ?_ | refine blk_alloc ?_ _)); refine blk_far ?_ NB350_357.out _; (with_reducible repeat (first | refine blk_drewN ?_ _ | refine blk_drew ?_ | refine blk_alloc ?_ _)); refine blk_far ?_ NB350_357.out _; (with_reducible repeat (first | refine blk_drewN ?_ _ | refine blk_drew ?_ | refine blk_alloc ?_ _)); refine blk_far ?_ NB350_357.out _; (with_reducible repeat (first | refine blk_drewN ?_ _ | refine blk_drew ?_ | refine blk_alloc ?_ _)); refine blk_far ?_ NB350_357.out _; (with_reducible repeat (first | refine blk_drewN ?_ _ | refine blk_drew ?_ | refine blk_alloc ?_ _)); exact BK350.out⟩
                                    have n1_ : Aside0 (((((w62.setCell ⟨gb357, 0, none⟩ (.int .u64 t358)).setCell ⟨gb357, 1, none⟩ (.int .u64 t359)).setCell ⟨gb357, 2, none⟩ (.int .u64 t360)).setCell ⟨gb357, 3, none⟩ (.int .u64 t361)).heap[gb357]? = some (.cells #[.int .u64 t358, .int .u64 t359, .int .u64 t360, .int .u64 t361] 24 (0, 0))) := ⟨by (with_reducible repeat (first | refine blk_drewN ?_ _ | refine blk_drew ?_ | refine blk_alloc ?_ _)); refine blk_put (cs := #[.int .u64 t358, .int .u64 t359, .int .u64 t360, .int .u64 t354]) ?_ 3 _ rfl; (with_reducible repeat (first | refine blk_drewN ?_ _ | refine blk_drew ?_ | refine blk_alloc ?_ _)); refine blk_put (cs := #[.int .u64 t358, .int .u64 t359, .int .u64 t353, .int .u64 t354]) ?_ 2 _ rfl; (with_reducible repeat (first | refine blk_drewN ?_ _ | refine blk_drew ?_ | refine blk_alloc ?_ _)); refine blk_put (cs := #[.int .u64 t358, .int .u64 t352, .int .u64 t353, .int .u64 t354]) ?_ 1 _ rfl; (with_reducible repeat (first | refine blk_drewN ?_ _ | refine blk_drew ?_ | refine blk_alloc ?_ _)); refine blk_put (cs := #[.int .u64 t351, .int .u64 t352, .int .u64 t353, .int .u64 t354]) ?_ 0 _ rfl; (with_reducible repeat (first | refine blk_drewN ?_ _ | refine blk_drew ?_ | refine blk_alloc ?_ _)); exact BK357.out⟩
                                    have n2_ : Aside0 (Below w.heap.size w ((((w62.setCell ⟨gb357, 0, none⟩ (.int .u64 t358)).setCell ⟨gb357, 1, none⟩ (.int .u64 t359)).setCell ⟨gb357, 2, none⟩ (.int .u64 t360)).setCell ⟨gb357, 3, none⟩ (.int .u64 t361))) := ⟨by repeat (first | (with_reducible first | exact HB.out | apply below_alloc | apply pw_below_drewN | apply below_drew1 | refine below_set ?_ GE350.out | refine below_set ?_ GE357.out) | exact HB.out)⟩
                                    (try clear BK350)
                                    (try clear BK357)
                                    (try clear HB)
                                    generalize ((((w62.setCell ⟨gb357, 0, none⟩ (.int .u64 t358)).setCell ⟨gb357, 1, none⟩ (.int .u64 t359)).setCell ⟨gb357, 2, none⟩ (.int .u64 t360)).setCell ⟨gb357, 3, none⟩ (.int .u64 t361)) = w65 at n0_ n1_ n2_ ⊢
                                    have BK350 := n0_
                                    have BK357 := n1_
                                    have HB := n2_
                                    clear n0_ n1_ n2_
                                    have n0_ := Aside0.mk (blk_drew BK350.out)
                                    have n1_ := Aside0.mk (blk_drew BK357.out)
                                    have n2_ := Aside0.mk (below_drew1 HB.out)
                                    clear BK350
                                    clear BK357
                                    clear HB
                                    have BK350 := n0_
                                    have BK357 := n1_
                                    have HB := n2_
                                    clear n0_ n1_ n2_
                                    refine start_ (n := 15) (S := fun w' => True) (ds := []) #[false, false, false, false, false, false, false, false, false, false, false, false, false, false, false] (by kernel_rfl) rfl rfl trivial (fun hHeld => ?_); refine with_tabW runnellaw03_BracketNots.tab15 runnellaw03_BracketNots.bits15 (fun HT_ HW_ => ?_)
                                    generalize w65.drew = w66 at BK350 BK357 HB hHeld ⊢
                                    refine pure_ (i := 0) (N := some 91) (v := ?_) (a' := ?_) #[true, false, false, false, false, false, false, false, false, false, false, false, false, false, false] rfl rfl (any_of HT_.out (by kernel_rfl)) (fun _ _ _ h => h) (Or.inl ⟨by rfl, ?_⟩) ?_ ?_
                                    rotate_left
                                    · intro w'
                                      go_simp
                                      with_reducible rfl
                                    rotate_left
                                    · simp only [Act.put, List.setIfInBounds_toArray, List.set_cons_zero, List.set_cons_succ, i64_w, i32_w]
                                      rfl
                                    refine pure_ (i := 1) (N := some 92) (v := ?_) (a' := ?_) #[true, true, false, false, false, false, false, false, false, false, false, false, false, false, false] rfl rfl (any_of HT_.out (by kernel_rfl)) (fun _ _ _ h => h) (Or.inl ⟨by rfl, ?_⟩) ?_ ?_
                                    rotate_left
                                    · intro w'
                                      go_simp
                                      with_reducible rfl
                                    rotate_left
                                    · simp only [Act.put, List.setIfInBounds_toArray, List.set_cons_zero, List.set_cons_succ, i64_w, i32_w]
                                      rfl
                                    refine pure_ (i := 2) (N := some 93) (v := ?_) (a' := ?_) #[true, true, true, false, false, false, false, false, false, false, false, false, false, false, false] rfl rfl (any_of HT_.out (by kernel_rfl)) (fun _ _ _ h => h) (Or.inl ⟨by rfl, ?_⟩) ?_ ?_
                                    rotate_left
                                    · intro w'
                                      go_simp
                                      with_reducible rfl
                                    rotate_left
                                    · simp only [Act.put, List.setIfInBounds_toArray, List.set_cons_zero, List.set_cons_succ, i64_w, i32_w]
                                      rfl
                                    refine pure_ (i := 3) (N := some 94) (v := undef) (a' := ?_) #[true, true, true, true, false, false, false, false, false, false, false, false, false, false, false] rfl rfl (any_of HT_.out (by kernel_rfl)) (fun _ _ _ h => h) (Or.inr ⟨by rfl, rfl⟩) ?_ ?_
                                    rotate_left
                                    · simp only [Act.put, List.setIfInBounds_toArray, List.set_cons_zero, List.set_cons_succ, i64_w, i32_w]
                                      rfl
                                    refine pure_ (i := 4) (N := some 95) (v := undef) (a' := ?_) #[true, true, true, true, true, false, false, false, false, false, false, false, false, false, false] rfl rfl (any_of HT_.out (by kernel_rfl)) (fun _ _ _ h => h) (Or.inr ⟨by rfl, rfl⟩) ?_ ?_
                                    rotate_left
                                    · simp only [Act.put, List.setIfInBounds_toArray, List.set_cons_zero, List.set_cons_succ, i64_w, i32_w]
                                      rfl
                                    refine pure_ (i := 5) (N := some 96) (v := undef) (a' := ?_) #[true, true, true, true, true, true, false, false, false, false, false, false, false, false, false] rfl rfl (any_of HT_.out (by kernel_rfl)) (fun _ _ _ h => h) (Or.inr ⟨by rfl, rfl⟩) ?_ ?_
                                    rotate_left
                                    · simp only [Act.put, List.setIfInBounds_toArray, List.set_cons_zero, List.set_cons_succ, i64_w, i32_w]
                                      rfl
                                    refine pure_ (i := 6) (N := some 97) (v := undef) (a' := ?_) #[true, true, true, true, true, true, true, false, false, false, false, false, false, false, false] rfl rfl (any_of HT_.out (by kernel_rfl)) (fun _ _ _ h => h) (Or.inr ⟨by rfl, rfl⟩) ?_ ?_
                                    rotate_left
                                    · simp only [Act.put, List.setIfInBounds_toArray, List.set_cons_zero, List.set_cons_succ, i64_w, i32_w]
                                      rfl
                                    refine pure_ (i := 7) (N := some 98) (v := ?_) (a' := ?_) #[true, true, true, true, true, true, true, true, false, false, false, false, false, false, false] rfl rfl (any_of HT_.out (by kernel_rfl)) (fun _ _ _ h => h) (Or.inl ⟨by rfl, ?_⟩) ?_ ?_
                                    rotate_left
                                    · intro w'
                                      go_simp
                                      with_reducible rfl
                                    rotate_left
                                    · simp only [Act.put, List.setIfInBounds_toArray, List.set_cons_zero, List.set_cons_succ, i64_w, i32_w]
                                      rfl
                                    refine pure_ (i := 8) (N := some 99) (v := ?_) (a' := ?_) #[true, true, true, true, true, true, true, true, true, false, false, false, false, false, false] rfl rfl (any_of HT_.out (by kernel_rfl)) (fun _ _ _ h => h) (Or.inl ⟨by rfl, ?_⟩) ?_ ?_
                                    rotate_left
                                    · intro w'
                                      go_simp
                                      with_reducible rfl
                                    rotate_left
                                    · simp only [Act.put, List.setIfInBounds_toArray, List.set_cons_zero, List.set_cons_succ, i64_w, i32_w]
                                      rfl
                                    refine pure_ (i := 9) (N := some 100) (v := undef) (a' := ?_) #[true, true, true, true, true, true, true, true, true, true, false, false, false, false, false] rfl rfl (any_of HT_.out (by kernel_rfl)) (fun _ _ _ h => h) (Or.inr ⟨by rfl, rfl⟩) ?_ ?_
                                    rotate_left
                                    · simp only [Act.put, List.setIfInBounds_toArray, List.set_cons_zero, List.set_cons_succ, i64_w, i32_w]
                                      rfl
                                    refine pure_ (i := 10) (N := some 101) (v := undef) (a' := ?_) #[true, true, true, true, true, true, true, true, true, true, true, false, false, false, false] rfl rfl (any_of HT_.out (by kernel_rfl)) (fun _ _ _ h => h) (Or.inr ⟨by rfl, rfl⟩) ?_ ?_
                                    rotate_left
                                    · simp only [Act.put, List.setIfInBounds_toArray, List.set_cons_zero, List.set_cons_succ, i64_w, i32_w]
                                      rfl
                                    refine pure_ (i := 11) (N := some 102) (v := undef) (a' := ?_) #[true, true, true, true, true, true, true, true, true, true, true, true, false, false, false] rfl rfl (any_of HT_.out (by kernel_rfl)) (fun _ _ _ h => h) (Or.inr ⟨by rfl, rfl⟩) ?_ ?_
                                    rotate_left
                                    · simp only [Act.put, List.setIfInBounds_toArray, List.set_cons_zero, List.set_cons_succ, i64_w, i32_w]
                                      rfl
                                    refine pure_ (i := 12) (N := some 103) (v := undef) (a' := ?_) #[true, true, true, true, true, true, true, true, true, true, true, true, true, false, false] rfl rfl (any_of HT_.out (by kernel_rfl)) (fun _ _ _ h => h) (Or.inr ⟨by rfl, rfl⟩) ?_ ?_
                                    rotate_left
                                    · simp only [Act.put, List.setIfInBounds_toArray, List.set_cons_zero, List.set_cons_succ, i64_w, i32_w]
                                      rfl
                                    refine pure_ (i := 13) (N := some 104) (v := ?_) (a' := ?_) #[true, true, true, true, true, true, true, true, true, true, true, true, true, true, false] rfl rfl (any_of HT_.out (by kernel_rfl)) (fun _ _ _ h => h) (Or.inl ⟨by rfl, ?_⟩) ?_ ?_
                                    rotate_left
                                    · intro w'
                                      go_simp
                                      with_reducible rfl
                                    rotate_left
                                    · simp only [Act.put, List.setIfInBounds_toArray, List.set_cons_zero, List.set_cons_succ, i64_w, i32_w]
                                      rfl
                                    refine pure_ (i := 14) (N := some 6) (v := ?_) (a' := ?_) #[true, true, true, true, true, true, true, true, true, true, true, true, true, true, true] rfl rfl (any_of HT_.out (by kernel_rfl)) (fun _ _ _ h => h) (Or.inl ⟨by rfl, ?_⟩) ?_ ?_
                                    rotate_left
                                    · intro w'
                                      go_simp
                                      with_reducible rfl
                                    rotate_left
                                    · simp only [Act.put, List.setIfInBounds_toArray, List.set_cons_zero, List.set_cons_succ, i64_w, i32_w]
                                      rfl
                                    refine done_ (done_of HT_.out (by kernel_rfl)) ?_
                                    try go_wp2
                                    go_ret
                                    exact ⟨by first | rfl | (simp only [wrap_wrap]; done) | (simp only [wrap_wrap]; rfl) | (simp [errW_none, errW_some] <;> rfl) | (simp [*, errW_none, errW_some] <;> rfl), by repeat (first | (with_reducible first | exact HB.out | apply below_alloc | apply pw_below_drewN | apply below_drew1 | refine below_set ?_ GE350.out | refine below_set ?_ GE357.out) | exact HB.out)⟩
                                · rw [if_neg c46] at H
                                  exact absurd H (by simp)
                              · rw [if_neg c45] at H
                                exact absurd H (by simp)
                          · rw [if_neg c42] at H
                            exact absurd H (by simp)
                  · rw [if_neg c26] at H
                    exact absurd H (by simp)
                · rw [if_neg c25] at H
                  exact absurd H (by simp)
              · rw [if_neg c24] at H
                exact absurd H (by simp)
            · rw [if_neg c23] at H
              exact absurd H (by simp)
    · rw [if_neg c7] at H
      have c7b0 : (t349 == 0) = false := beq_eq_false_iff_ne.mpr c7
      have c7b1 : (t349 != 0) = true := bne_iff_ne.mpr c7
      by_cases c67 : t348 = 0
      · rw [if_pos c67] at H
        have c67b0 : (t348 == 0) = true := beq_iff_eq.mpr c67
        have c67b1 : (t348 != 0) = false := bne_eq_false_iff_eq.mpr c67
        clear c67
        obtain rfl := Option.some.inj H
        go_enter Tryd.func6, Tryd.ntmps6
        go_wp2_with (first | ((with_reducible refine gate_callee (f := 12) rfl ?_); refine goesL_ (some 13) rfl rfl Tryd.func12 (by kernel_rfl) rfl #[] rfl (by (try simp only [List.map_toArray, List.map_cons, List.map_nil]); first | done | rfl | (simp only [List.length_drop, List.length_take]; rfl)) ?_; (with_reducible refine (runnellaw03_awake.calls k  true _ ?hmd A4.out).mono ?_); (case hmd => exact (HMD.out.below (by repeat (first | (with_reducible first | exact HB.out | apply below_alloc | apply pw_below_drewN | apply below_drew1) | exact HB.out)))); rintro e w68 ⟨rfl, hb⟩; refine ⟨_, rfl, ?_⟩; have n0_ := Aside0.mk (below_step (by repeat (first | (with_reducible first | exact HB.out | apply below_alloc | apply pw_below_drewN | apply below_drew1) | exact HB.out)) hb); clear HB; have HB := n0_; clear n0_; (try clear hb); (try clear hb2); (try clear hk); (try clear hi)) | ((with_reducible refine gate_callee (f := 10) rfl ?_); refine goesL_ (some 17) rfl rfl Tryd.func10 (by kernel_rfl) rfl #[.string a0, .int .i64 0] rfl (by (try simp only [List.map_toArray, List.map_cons, List.map_nil]); first | done | rfl | (simp only [List.length_drop, List.length_take]; rfl)) ?_; (with_reducible refine (bracket_Parse.calls a0 0 t344 t345 t346 t347 t348 t349 _ ?hmd A6.out).mono ?_); (case hmd => exact (HMD.out.below (by repeat (first | (with_reducible first | exact HB.out | apply below_alloc | apply pw_below_drewN | apply below_drew1) | exact HB.out))).1); rintro e w69 ⟨rfl, hb⟩; refine ⟨_, rfl, ?_⟩; have n0_ := Aside0.mk (below_step (by repeat (first | (with_reducible first | exact HB.out | apply below_alloc | apply pw_below_drewN | apply below_drew1) | exact HB.out)) hb); clear HB; have HB := n0_; clear n0_; (try clear hb); (try clear hb2); (try clear hk); (try clear hi)) | ((with_reducible refine gate_dst (N := 7) rfl ?_); (try (refine gate_guard (by rfl) ?_; dsimp only)); refine box_event ?hg (N := 7) ?hd (cs := #[.int .u64 0, .int .u64 0, .int .u64 0, .int .u64 0]) (t := 24) ?hr ?_; (case hd => rfl); (case hg => rfl); (case hr => first | (go_simp; done) | (go_simp; rfl)); intro gb350 hg w70 hbox hb; have n0_ := Aside0.mk (below_step (by repeat (first | (with_reducible first | exact HB.out | apply below_alloc | apply pw_below_drewN | apply below_drew1) | exact HB.out)) hb); have n1_ := Aside0.mk (hbox); have n2_ := Aside0.mk ((by rw [hg]; exact (below_size (by repeat (first | (with_reducible first | exact HB.out | apply below_alloc | apply pw_below_drewN | apply below_drew1) | exact HB.out))) : w.heap.size ≤ gb350)); have n3_ := Aside0.mk ((by rw [hg]; exact (below_size (by repeat (first | (with_reducible first | exact HB.out | apply below_alloc | apply pw_below_drewN | apply below_drew1) | exact HB.out))) : w.heap.size ≤ gb350)); clear HB; have HB := n0_; have BK350 := n1_; have GW350 := n2_; have GE350 := n3_; clear n0_ n1_ n2_ n3_; clear hb hbox hg; have hcz71_0 : w70.cell? ⟨gb350, 0, none⟩ = some (.int .u64 0) := (blk_cell BK350.out 0).trans rfl; have hcz71_1 : w70.cell? ⟨gb350, 1, none⟩ = some (.int .u64 0) := (blk_cell BK350.out 1).trans rfl; have hcz71_2 : w70.cell? ⟨gb350, 2, none⟩ = some (.int .u64 0) := (blk_cell BK350.out 2).trans rfl; have hcz71_3 : w70.cell? ⟨gb350, 3, none⟩ = some (.int .u64 0) := (blk_cell BK350.out 3).trans rfl; have hfz71_0 := blk_frozen BK350.out 0; have hfz71_1 := blk_frozen BK350.out 1; have hfz71_2 := blk_frozen BK350.out 2; have hfz71_3 := blk_frozen BK350.out 3))
        go_ret
        exact ⟨by first | rfl | (simp only [wrap_wrap]; done) | (simp only [wrap_wrap]; rfl) | (simp [errW_none, errW_some] <;> rfl) | (simp [*, errW_none, errW_some] <;> rfl), by repeat (first | (with_reducible first | exact HB.out | apply below_alloc | apply pw_below_drewN | apply below_drew1 | refine below_set ?_ GE350.out) | exact HB.out)⟩
      · rw [if_neg c67] at H
        have c67b0 : (t348 == 0) = false := beq_eq_false_iff_ne.mpr c67
        have c67b1 : (t348 != 0) = true := bne_iff_ne.mpr c67
        obtain rfl := Option.some.inj H
        go_enter Tryd.func6, Tryd.ntmps6
        go_wp2_with (first | ((with_reducible refine gate_callee (f := 12) rfl ?_); refine goesL_ (some 13) rfl rfl Tryd.func12 (by kernel_rfl) rfl #[] rfl (by (try simp only [List.map_toArray, List.map_cons, List.map_nil]); first | done | rfl | (simp only [List.length_drop, List.length_take]; rfl)) ?_; (with_reducible refine (runnellaw03_awake.calls k  true _ ?hmd A4.out).mono ?_); (case hmd => exact (HMD.out.below (by repeat (first | (with_reducible first | exact HB.out | apply below_alloc | apply pw_below_drewN | apply below_drew1) | exact HB.out)))); rintro e w72 ⟨rfl, hb⟩; refine ⟨_, rfl, ?_⟩; have n0_ := Aside0.mk (below_step (by repeat (first | (with_reducible first | exact HB.out | apply below_alloc | apply pw_below_drewN | apply below_drew1) | exact HB.out)) hb); clear HB; have HB := n0_; clear n0_; (try clear hb); (try clear hb2); (try clear hk); (try clear hi)) | ((with_reducible refine gate_callee (f := 10) rfl ?_); refine goesL_ (some 17) rfl rfl Tryd.func10 (by kernel_rfl) rfl #[.string a0, .int .i64 0] rfl (by (try simp only [List.map_toArray, List.map_cons, List.map_nil]); first | done | rfl | (simp only [List.length_drop, List.length_take]; rfl)) ?_; (with_reducible refine (bracket_Parse.calls a0 0 t344 t345 t346 t347 t348 t349 _ ?hmd A6.out).mono ?_); (case hmd => exact (HMD.out.below (by repeat (first | (with_reducible first | exact HB.out | apply below_alloc | apply pw_below_drewN | apply below_drew1) | exact HB.out))).1); rintro e w73 ⟨rfl, hb⟩; refine ⟨_, rfl, ?_⟩; have n0_ := Aside0.mk (below_step (by repeat (first | (with_reducible first | exact HB.out | apply below_alloc | apply pw_below_drewN | apply below_drew1) | exact HB.out)) hb); clear HB; have HB := n0_; clear n0_; (try clear hb); (try clear hb2); (try clear hk); (try clear hi)) | ((with_reducible refine gate_dst (N := 7) rfl ?_); (try (refine gate_guard (by rfl) ?_; dsimp only)); refine box_event ?hg (N := 7) ?hd (cs := #[.int .u64 0, .int .u64 0, .int .u64 0, .int .u64 0]) (t := 24) ?hr ?_; (case hd => rfl); (case hg => rfl); (case hr => first | (go_simp; done) | (go_simp; rfl)); intro gb350 hg w74 hbox hb; have n0_ := Aside0.mk (below_step (by repeat (first | (with_reducible first | exact HB.out | apply below_alloc | apply pw_below_drewN | apply below_drew1) | exact HB.out)) hb); have n1_ := Aside0.mk (hbox); have n2_ := Aside0.mk ((by rw [hg]; exact (below_size (by repeat (first | (with_reducible first | exact HB.out | apply below_alloc | apply pw_below_drewN | apply below_drew1) | exact HB.out))) : w.heap.size ≤ gb350)); have n3_ := Aside0.mk ((by rw [hg]; exact (below_size (by repeat (first | (with_reducible first | exact HB.out | apply below_alloc | apply pw_below_drewN | apply below_drew1) | exact HB.out))) : w.heap.size ≤ gb350)); clear HB; have HB := n0_; have BK350 := n1_; have GW350 := n2_; have GE350 := n3_; clear n0_ n1_ n2_ n3_; clear hb hbox hg; have hcz75_0 : w74.cell? ⟨gb350, 0, none⟩ = some (.int .u64 0) := (blk_cell BK350.out 0).trans rfl; have hcz75_1 : w74.cell? ⟨gb350, 1, none⟩ = some (.int .u64 0) := (blk_cell BK350.out 1).trans rfl; have hcz75_2 : w74.cell? ⟨gb350, 2, none⟩ = some (.int .u64 0) := (blk_cell BK350.out 2).trans rfl; have hcz75_3 : w74.cell? ⟨gb350, 3, none⟩ = some (.int .u64 0) := (blk_cell BK350.out 3).trans rfl; have hfz75_0 := blk_frozen BK350.out 0; have hfz75_1 := blk_frozen BK350.out 1; have hfz75_2 := blk_frozen BK350.out 2; have hfz75_3 := blk_frozen BK350.out 3))
        go_ret
        exact ⟨by first | rfl | (simp only [wrap_wrap]; done) | (simp only [wrap_wrap]; rfl) | (simp [errW_none, errW_some] <;> rfl) | (simp [*, errW_none, errW_some] <;> rfl), by repeat (first | (with_reducible first | exact HB.out | apply below_alloc | apply pw_below_drewN | apply below_drew1 | refine below_set ?_ GE350.out) | exact HB.out)⟩
  · replace c5 := Bool.eq_false_iff.mpr c5
    subst c5
    have H1 : (some false) = some r := by rw [if_neg (show ¬ (false = true) by decide)] at H; exact H
    clear H
    have H := H1
    clear H1
    obtain rfl := Option.some.inj H
    go_enter Tryd.func6, Tryd.ntmps6
    go_wp2_with (first | ((with_reducible refine gate_callee (f := 12) rfl ?_); refine goesL_ (some 13) rfl rfl Tryd.func12 (by kernel_rfl) rfl #[] rfl (by (try simp only [List.map_toArray, List.map_cons, List.map_nil]); first | done | rfl | (simp only [List.length_drop, List.length_take]; rfl)) ?_; (with_reducible refine (runnellaw03_awake.calls k  false _ ?hmd A4.out).mono ?_); (case hmd => exact (HMD.out.below (by repeat (first | (with_reducible first | exact HB.out | apply below_alloc | apply pw_below_drewN | apply below_drew1) | exact HB.out)))); rintro e w76 ⟨rfl, hb⟩; refine ⟨_, rfl, ?_⟩; have n0_ := Aside0.mk (below_step (by repeat (first | (with_reducible first | exact HB.out | apply below_alloc | apply pw_below_drewN | apply below_drew1) | exact HB.out)) hb); clear HB; have HB := n0_; clear n0_; (try clear hb); (try clear hb2); (try clear hk); (try clear hi)))
    go_ret
    exact ⟨by first | rfl | (simp only [wrap_wrap]; done) | (simp only [wrap_wrap]; rfl) | (simp [errW_none, errW_some] <;> rfl) | (simp [*, errW_none, errW_some] <;> rfl), by repeat (first | (with_reducible first | exact HB.out | apply below_alloc | apply pw_below_drewN | apply below_drew1) | exact HB.out)⟩
end Go.Proofs.YtcmipoicnonaeaaDoor.F
end
