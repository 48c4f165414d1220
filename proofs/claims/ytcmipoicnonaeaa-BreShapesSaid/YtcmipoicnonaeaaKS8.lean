/- Texts of this claim, 8 of 29: F61, F62. -/

import Derived.Test.YtcmipoicnonaeaaKS4
import Derived.Test.YtcmipoicnonaeaaKS7
section
namespace Go.Proofs.Ytcmipoicnonaeaa.F
open Go.RowKit Go.Proofs.YtcmipoicnonaeaaW.PrintWords Go.Proofs.YtcmipoicnonaeaaW.PrintLast Go.Proofs.YtcmipoicnonaeaaW.PrintMore
attribute [local go_sem] qbs qbr qc7 qc0 qbh qbj qbp qbq
set_option linter.unusedVariables false
set_option linter.unusedSimpArgs false
mutual
def qal.j0 : Nat → ByteArray → Int → Int → Int → Bool → Option (Int × Int × Int × Bool)
 | 0, _, _, _, _, _ => none
 | k + 1, x0, x1, x4, x5, x24 => if x24 = true then ((qb8.f k x0 (wrap64 (x1 + 1))).bind fun bt112 => (qal.j1 k x0 bt112.2 x4 bt112.1)) else (qal.j1 k x0 x1 x4 x5)
def qal.j1 : Nat → ByteArray → Int → Int → Int → Option (Int × Int × Int × Bool)
 | 0, _, _, _, _ => none
 | k + 1, x0, x1, x4, x5 => if x4 < 0 then (qal.j2 k x0 x1 x4 x5 true) else (if x4 > 255 then (qal.j2 k x0 x1 x4 x5 true) else (if x5 > 255 then (qal.j2 k x0 x1 x4 x5 true) else (if x5 ≥ 0 then (qal.j2 k x0 x1 x4 x5 (decide (x5 < x4))) else (qal.j2 k x0 x1 x4 x5 false))))
def qal.j2 : Nat → ByteArray → Int → Int → Int → Bool → Option (Int × Int × Int × Bool)
 | 0, _, _, _, _, _ => none
 | k + 1, x0, x1, x4, x5, x50 => if x50 = true then (some (0, 0, 0, false)) else (if (wrap64 (x1 + 2)) > (x0.size : Int) then (some (0, 0, 0, false)) else (if 0 ≤ x1 then (if x1 ≤ (wrap64 (x1 + 2)) then (if (wrap64 (x1 + 2)) ≤ (x0.size : Int) then (if (x0.extract (x1 : Int).toNat ((wrap64 (x1 + 2)) : Int).toNat).toList = ([92, 125] : List UInt8) then (some (x4, x5, wrap64 (x1 + 2), true)) else (some (0, 0, 0, false))) else (none)) else (none)) else (none)))
end
def qal.f (k : Nat) (a0 : ByteArray) (a1 : Int) : Option (Int × Int × Int × Bool) := (qb8.f k a0 a1).bind fun bt110 => (if bt110.2 < (a0.size : Int) then (if 0 ≤ bt110.2 then (qal.j0 k a0 bt110.2 bt110.1 bt110.1 ((bt a0 bt110.2) == 44)) else (none)) else (qal.j0 k a0 bt110.2 bt110.1 bt110.1 false))
theorem qal.qcs : ∀ k, (∀ y0 y1 y2 y3 y4, LeO (qal.j0 k y0 y1 y2 y3 y4) (qal.j0 (k + 1) y0 y1 y2 y3 y4)) ∧ (∀ y0 y1 y2 y3, LeO (qal.j1 k y0 y1 y2 y3) (qal.j1 (k + 1) y0 y1 y2 y3)) ∧ (∀ y0 y1 y2 y3 y4, LeO (qal.j2 k y0 y1 y2 y3 y4) (qal.j2 (k + 1) y0 y1 y2 y3 y4))
 | 0 => ⟨fun _ _ _ _ _ r h => by simp [qal.j0] at h, fun _ _ _ _ r h => by simp [qal.j1] at h, fun _ _ _ _ _ r h => by simp [qal.j2] at h⟩
 | k + 1 => by
  obtain ⟨ih0, ih1, ih2⟩ := qal.qcs k
  refine ⟨?_, ?_, ?_⟩
  ·intro y0 y1 y2 y3 y4
   unfold qal.j0
   repeat' first
   | (with_reducible exact ih0 _ _ _ _ _)
   | (with_reducible exact ih1 _ _ _ _)
   | (with_reducible exact ih2 _ _ _ _ _)
   | (with_reducible exact qb8.mono _ _ _)
   | (with_reducible exact LeO.refl _)
   | (with_reducible exact LeO.none _)
   | (with_reducible refine LeO.ite ?_ ?_)
   | (with_reducible refine LeO.bind ?_ (fun _ => ?_))
   | exact ih0 _ _ _ _ _
   | exact ih1 _ _ _ _
   | exact ih2 _ _ _ _ _
   | exact qb8.mono _ _ _
   | exact LeO.none _
   | refine LeO.ite ?_ ?_
   | refine LeO.bind ?_ (fun _ => ?_)
  ·intro y0 y1 y2 y3
   unfold qal.j1
   repeat' first
   | (with_reducible exact ih0 _ _ _ _ _)
   | (with_reducible exact ih1 _ _ _ _)
   | (with_reducible exact ih2 _ _ _ _ _)
   | (with_reducible exact qb8.mono _ _ _)
   | (with_reducible exact LeO.refl _)
   | (with_reducible exact LeO.none _)
   | (with_reducible refine LeO.ite ?_ ?_)
   | (with_reducible refine LeO.bind ?_ (fun _ => ?_))
   | exact ih0 _ _ _ _ _
   | exact ih1 _ _ _ _
   | exact ih2 _ _ _ _ _
   | exact qb8.mono _ _ _
   | exact LeO.none _
   | refine LeO.ite ?_ ?_
   | refine LeO.bind ?_ (fun _ => ?_)
  ·intro y0 y1 y2 y3 y4
   unfold qal.j2
   repeat' first
   | (with_reducible exact ih0 _ _ _ _ _)
   | (with_reducible exact ih1 _ _ _ _)
   | (with_reducible exact ih2 _ _ _ _ _)
   | (with_reducible exact qb8.mono _ _ _)
   | (with_reducible exact LeO.refl _)
   | (with_reducible exact LeO.none _)
   | (with_reducible refine LeO.ite ?_ ?_)
   | (with_reducible refine LeO.bind ?_ (fun _ => ?_))
   | exact ih0 _ _ _ _ _
   | exact ih1 _ _ _ _
   | exact ih2 _ _ _ _ _
   | exact qb8.mono _ _ _
   | exact LeO.none _
   | refine LeO.ite ?_ ?_
   | refine LeO.bind ?_ (fun _ => ?_)
theorem qal.mono : ∀ a0 a1 k, LeO (qal.f k a0 a1) (qal.f (k + 1) a0 a1) := by
 intro a0 a1 k
 obtain ⟨ih0, ih1, ih2⟩ := qal.qcs k
 unfold qal.f
 repeat' first
   | (with_reducible exact ih0 _ _ _ _ _)
   | (with_reducible exact ih1 _ _ _ _)
   | (with_reducible exact ih2 _ _ _ _ _)
   | (with_reducible exact qb8.mono _ _ _)
   | (with_reducible exact LeO.refl _)
   | (with_reducible exact LeO.none _)
   | (with_reducible refine LeO.ite ?_ ?_)
   | (with_reducible refine LeO.bind ?_ (fun _ => ?_))
   | exact ih0 _ _ _ _ _
   | exact ih1 _ _ _ _
   | exact ih2 _ _ _ _ _
   | exact qb8.mono _ _ _
   | exact LeO.none _
   | refine LeO.ite ?_ ?_
   | refine LeO.bind ?_ (fun _ => ?_)
set_option maxHeartbeats 8000000 in
set_option maxRecDepth 100000 in
theorem qal.calls (k : Nat) (a0 : ByteArray) (a1 : Int) (r1 : Int) (r2 : Int) (r3 : Int) (r4 : Bool) (w : World) (h : qal.f k a0 a1 = some (r1, r2, r3, r4)) :
  Calls Try.prog 61 #[.string a0, .int .i64 a1] w fun e w' => e = .returned (.tuple #[.int .i64 r1, .int .i64 r2, .int .i64 r3, .bool r4]) ∧ Below w.heap.size w w' := by
 have HB := qa0.mk (Below.refl w.heap.size w)
 have H : ((qb8.f k a0 a1).bind fun bt110 => (if bt110.2 < (a0.size : Int) then (if 0 ≤ bt110.2 then (qal.j0 k a0 bt110.2 bt110.1 bt110.1 ((bt a0 bt110.2) == 44)) else (none)) else (qal.j0 k a0 bt110.2 bt110.1 bt110.1 false))) = some (r1, r2, r3, r4) := h
 clear h
 replace H := Option.bind_eq_some_iff.mp H
 obtain ⟨⟨t110, t111⟩, A30, H⟩ := H
 replace H : (if t111 < (a0.size : Int) then (if 0 ≤ t111 then (qal.j0 k a0 t111 t110 t110 ((bt a0 t111) == 44)) else (none)) else (qal.j0 k a0 t111 t110 t110 false)) = some (r1, r2, r3, r4) := H
 have A3 := qa0.mk A30
 clear A30
 have HC4 := qa0.mk H
 clear H
 go_enter Try.func61, Try.ntmps61
 go_upto_region 3 with (first | ((with_reducible refine qbc (f := 72) rfl ?_); refine qcc (some 11) rfl rfl Try.func72 (by kernel_rfl) rfl #[.string a0, .int .i64 a1] rfl (by (try simp only [List.map_toArray, List.map_cons, List.map_nil]); first | done | rfl | (simp only [List.length_drop, List.length_take]; rfl)) ?_; (with_reducible refine (qb8.calls k a0 a1 t110 t111 _ A3.out).mono ?_); rintro e w5 ⟨rfl, hb⟩; refine ⟨_, rfl, ?_⟩; have n0_ := qa0.mk (qap (by repeat (first | (with_reducible first | exact HB.out | apply qa6 | apply qa7 | apply qa8) | exact HB.out)) hb); clear HB; have HB := n0_; clear n0_; (try clear hb); (try clear hb2); (try clear hk); (try clear hi)))
 (try simp only [Act.put, List.setIfInBounds_toArray, List.set_cons_zero, List.set_cons_succ])
 go_cut [24] (fun v24 wc => ∃ (kq : Nat) (x24_3 : Bool), v24 = .bool x24_3 ∧ qa0 (qal.j0 kq a0 t111 t110 t110 x24_3 = some (r1, r2, r3, r4)) ∧ qa0 (kq ≤ k) ∧ qa0 (Below w.heap.size w wc))
 case first =>
  have H := HC4.out
  clear HC4
  by_cases c6 : t111 < (a0.size : Int)
  ·rw [if_pos c6] at H
   have c6b0 : decide (t111 < (a0.size : Int)) = true := decide_eq_true c6
   clear c6
   (first | rw [c6b0] | (simp only [qbk, qcl]; rw [c6b0]) | skip)
   by_cases c7 : 0 ≤ t111
   ·rw [if_pos c7] at H
    have c7b0 : decide (0 ≤ t111) = true := decide_eq_true c7
    clear c7
    have H' := qa0.mk H
    clear H
    have p8 : 0 ≤ (t111 : Int) := of_decide_eq_true (by first | (with_reducible assumption) | assumption)
    have q8 : t111 < (a0.size : Int) := of_decide_eq_true (by first | (with_reducible assumption) | assumption)
    have hx8 := qbz a0 t111
    replace p8 := eq_true p8
    replace q8 := eq_true q8
    go_wp2
    go_meet
    case rel => exact ⟨_, (((bt a0 t111) == 44)), (by first | rfl | (simp; done) | (simp [*]; done) | (exfalso; simp only [decide_eq_true_eq] at *; omega)), H', ⟨by first | omega | exact Nat.le_refl _⟩, ⟨by repeat (first | (with_reducible first | exact HB.out | apply qa6 | apply qa7 | apply qa8) | exact HB.out)⟩⟩
   ·rw [if_neg c7] at H
    exact absurd H (by simp)
  ·rw [if_neg c6] at H
   have c6b0 : decide (t111 < (a0.size : Int)) = false := decide_eq_false c6
   clear c6
   (first | rw [c6b0] | (simp only [qbk, qcl]; rw [c6b0]) | skip)
   have H' := qa0.mk H
   clear H
   go_wp2
   go_meet
   case rel => exact ⟨_, (false), (by first | rfl | (simp; done) | (simp [*]; done) | (exfalso; simp only [decide_eq_true_eq] at *; omega)), H', ⟨by first | omega | exact Nat.le_refl _⟩, ⟨by repeat (first | (with_reducible first | exact HB.out | apply qa6 | apply qa7 | apply qa8) | exact HB.out)⟩⟩
 case rest =>
  clear HC4
  try clear p2
  try clear c6
  try clear c6b0
  try clear c7
  try clear c7b0
  try clear p8
  try clear q8
  try clear hx8
  try clear p8
  try clear q8
  obtain ⟨kq, x24_3, rfl, HA, HJ3, HB⟩ := hcut
  cases kq with
  | zero => exact absurd HA.out (by simp [qal.j0])
  | succ kj3 =>
   have H := HA.out
   clear HA
   simp only [qal.j0] at H
   have HC9 := qa0.mk H
   clear H
   go_upto_if 24 with (fail)
   go_cut [1, 5] (fun v1 v5 wc => ∃ (kq : Nat) (x1_8 : Int) (x5_8 : Int), v1 = .int .i64 x1_8 ∧ v5 = .int .i64 x5_8 ∧ qa0 (qal.j1 kq a0 x1_8 t110 x5_8 = some (r1, r2, r3, r4)) ∧ qa0 (kq ≤ kj3) ∧ qa0 (Below w.heap.size w wc))
   case first =>
    have H := HC9.out
    clear HC9
    by_cases c10 : x24_3 = true
    ·subst c10
     have H1 : ((qb8.f kj3 a0 (wrap64 (t111 + 1))).bind fun bt112 => (qal.j1 kj3 a0 bt112.2 t110 bt112.1)) = some (r1, r2, r3, r4) := by rw [if_pos rfl] at H; exact H
     clear H
     have H := H1
     clear H1
     replace H := Option.bind_eq_some_iff.mp H
     obtain ⟨⟨t112, t113⟩, A110, H⟩ := H
     replace H : (qal.j1 kj3 a0 t113 t110 t112) = some (r1, r2, r3, r4) := H
     have A11 := qa0.mk A110
     clear A110
     have H' := qa0.mk H
     clear H
     go_wp2_with (first | ((with_reducible refine qbc (f := 72) rfl ?_); refine qcc (some 29) rfl rfl Try.func72 (by kernel_rfl) rfl #[.string a0, .int .i64 (wrap64 (t111 + 1))] rfl (by (try simp only [List.map_toArray, List.map_cons, List.map_nil]); first | done | rfl | (simp only [List.length_drop, List.length_take]; rfl)) ?_; (with_reducible refine (qb8.calls kj3 a0 (wrap64 (t111 + 1)) t112 t113 _ A11.out).mono ?_); rintro e w12 ⟨rfl, hb⟩; refine ⟨_, rfl, ?_⟩; have n0_ := qa0.mk (qap (by repeat (first | (with_reducible first | exact HB.out | apply qa6 | apply qa7 | apply qa8) | exact HB.out)) hb); clear HB; have HB := n0_; clear n0_; (try clear hb); (try clear hb2); (try clear hk); (try clear hi)))
     go_meet
     case rel => exact ⟨_, (t113), (t112), (by first | rfl | (simp; done) | (simp [*]; done) | (exfalso; simp only [decide_eq_true_eq] at *; omega)), (by first | rfl | (simp; done) | (simp [*]; done) | (exfalso; simp only [decide_eq_true_eq] at *; omega)), H', ⟨by have := HJ3.out; first | omega | exact Nat.le_refl _⟩, ⟨by repeat (first | (with_reducible first | exact HB.out | apply qa6 | apply qa7 | apply qa8) | exact HB.out)⟩⟩
    ·replace c10 := Bool.eq_false_iff.mpr c10
     subst c10
     have H1 : (qal.j1 kj3 a0 t111 t110 t110) = some (r1, r2, r3, r4) := by rw [if_neg (show ¬ (false = true) by decide)] at H; exact H
     clear H
     have H := H1
     clear H1
     have H' := qa0.mk H
     clear H
     go_wp2
     go_meet
     case rel => exact ⟨_, (t111), (t110), (by first | rfl | (simp; done) | (simp [*]; done) | (exfalso; simp only [decide_eq_true_eq] at *; omega)), (by first | rfl | (simp; done) | (simp [*]; done) | (exfalso; simp only [decide_eq_true_eq] at *; omega)), H', ⟨by have := HJ3.out; first | omega | exact Nat.le_refl _⟩, ⟨by repeat (first | (with_reducible first | exact HB.out | apply qa6 | apply qa7 | apply qa8) | exact HB.out)⟩⟩
   case rest =>
    clear HC9
    try clear c1
    try clear p2
    try clear c6
    try clear c6b0
    try clear p6
    try clear c7
    try clear c7b0
    try clear p8
    try clear q8
    try clear hx8
    try clear c10
    try clear p2
    try clear p8
    try clear q8
    obtain ⟨kq, x1_8, x5_8, rfl, rfl, HA, HJ8, HB⟩ := hcut
    cases kq with
    | zero => exact absurd HA.out (by simp [qal.j1])
    | succ kj8 =>
     have H := HA.out
     clear HA
     simp only [qal.j1] at H
     have HC13 := qa0.mk H
     clear H
     go_upto_region 5 with (fail)
     go_cut [50] (fun v50 wc => ∃ (kq : Nat) (x50_12 : Bool), v50 = .bool x50_12 ∧ qa0 (qal.j2 kq a0 x1_8 t110 x5_8 x50_12 = some (r1, r2, r3, r4)) ∧ qa0 (kq ≤ kj8) ∧ qa0 (Below w.heap.size w wc))
     case first =>
      have H := HC13.out
      clear HC13
      by_cases c14 : t110 < 0
      ·rw [if_pos c14] at H
       have c14b0 : decide (t110 < 0) = true := decide_eq_true c14
       clear c14
       (first | rw [c14b0] | (simp only [qbk, qcl]; rw [c14b0]) | skip)
       have H' := qa0.mk H
       clear H
       go_wp2
       go_meet
       case rel => exact ⟨_, (true), (by first | rfl | (simp; done) | (simp [*]; done) | (exfalso; simp only [decide_eq_true_eq] at *; omega)), H', ⟨by have := HJ3.out; have := HJ8.out; first | omega | exact Nat.le_refl _⟩, ⟨by repeat (first | (with_reducible first | exact HB.out | apply qa6 | apply qa7 | apply qa8) | exact HB.out)⟩⟩
      ·rw [if_neg c14] at H
       have c14b0 : decide (t110 < 0) = false := decide_eq_false c14
       clear c14
       (first | rw [c14b0] | (simp only [qbk, qcl]; rw [c14b0]) | skip)
       by_cases c15 : t110 > 255
       ·rw [if_pos c15] at H
        have c15b0 : decide (255 < t110) = true := decide_eq_true c15
        clear c15
        have H' := qa0.mk H
        clear H
        go_wp2
        go_meet
        case rel => exact ⟨_, (true), (by first | rfl | (simp; done) | (simp [*]; done) | (exfalso; simp only [decide_eq_true_eq] at *; omega)), H', ⟨by have := HJ3.out; have := HJ8.out; first | omega | exact Nat.le_refl _⟩, ⟨by repeat (first | (with_reducible first | exact HB.out | apply qa6 | apply qa7 | apply qa8) | exact HB.out)⟩⟩
       ·rw [if_neg c15] at H
        have c15b0 : decide (255 < t110) = false := decide_eq_false c15
        clear c15
        by_cases c16 : x5_8 > 255
        ·rw [if_pos c16] at H
         have c16b0 : decide (255 < x5_8) = true := decide_eq_true c16
         clear c16
         have H' := qa0.mk H
         clear H
         go_wp2
         go_meet
         case rel => exact ⟨_, (true), (by first | rfl | (simp; done) | (simp [*]; done) | (exfalso; simp only [decide_eq_true_eq] at *; omega)), H', ⟨by have := HJ3.out; have := HJ8.out; first | omega | exact Nat.le_refl _⟩, ⟨by repeat (first | (with_reducible first | exact HB.out | apply qa6 | apply qa7 | apply qa8) | exact HB.out)⟩⟩
        ·rw [if_neg c16] at H
         have c16b0 : decide (255 < x5_8) = false := decide_eq_false c16
         clear c16
         by_cases c17 : x5_8 ≥ 0
         ·rw [if_pos c17] at H
          have c17b0 : decide (0 ≤ x5_8) = true := decide_eq_true c17
          clear c17
          have H' := qa0.mk H
          clear H
          go_wp2
          go_meet
          case rel => exact ⟨_, (decide (x5_8 < t110)), (by first | rfl | (simp; done) | (simp [*]; done) | (exfalso; simp only [decide_eq_true_eq] at *; omega)), H', ⟨by have := HJ3.out; have := HJ8.out; first | omega | exact Nat.le_refl _⟩, ⟨by repeat (first | (with_reducible first | exact HB.out | apply qa6 | apply qa7 | apply qa8) | exact HB.out)⟩⟩
         ·rw [if_neg c17] at H
          have c17b0 : decide (0 ≤ x5_8) = false := decide_eq_false c17
          clear c17
          have H' := qa0.mk H
          clear H
          go_wp2
          go_meet
          case rel => exact ⟨_, (false), (by first | rfl | (simp; done) | (simp [*]; done) | (exfalso; simp only [decide_eq_true_eq] at *; omega)), H', ⟨by have := HJ3.out; have := HJ8.out; first | omega | exact Nat.le_refl _⟩, ⟨by repeat (first | (with_reducible first | exact HB.out | apply qa6 | apply qa7 | apply qa8) | exact HB.out)⟩⟩
     case rest =>
      clear HC13
      try clear c1
      try clear p2
      try clear c6
      try clear c6b0
      try clear p6
      try clear c7
      try clear c7b0
      try clear p8
      try clear q8
      try clear hx8
      try clear c10
      try clear c14
      try clear c14b0
      try clear c15
      try clear c15b0
      try clear c16
      try clear c16b0
      try clear c17
      try clear c17b0
      try clear p2
      try clear p6
      try clear p8
      try clear q8
      obtain ⟨kq, x50_12, rfl, HA, HJ12, HB⟩ := hcut
      cases kq with
      | zero => exact absurd HA.out (by simp [qal.j2])
      | succ kj12 =>
       have H := HA.out
       clear HA
       simp only [qal.j2] at H
       by_cases c18 : x50_12 = true
       ·subst c18
        have H1 : (some (0, 0, 0, false)) = some (r1, r2, r3, r4) := by rw [if_pos rfl] at H; exact H
        clear H
        have H := H1
        clear H1
        simp only [Option.some.injEq, Prod.mk.injEq] at H
        obtain ⟨rfl, rfl, rfl, rfl⟩ := H
        go_wp2
        refine bodyPost_ret (qb3 (rs := [.tmp 4, .tmp 5, .tmp 6, .tmp 7]) rfl (by simp) (.tmp (.tmp (.tmp (.tmp .nil))))) rfl ?_
        exact ⟨by first | rfl | (simp only [wrap_wrap]; done) | (simp only [wrap_wrap]; rfl) | (simp [qah, qai] <;> rfl) | (simp [*, qah, qai] <;> rfl), by repeat (first | (with_reducible first | exact HB.out | apply qa6 | apply qa7 | apply qa8) | exact HB.out)⟩
       ·replace c18 := Bool.eq_false_iff.mpr c18
        subst c18
        have H1 : (if (wrap64 (x1_8 + 2)) > (a0.size : Int) then (some (0, 0, 0, false)) else (if 0 ≤ x1_8 then (if x1_8 ≤ (wrap64 (x1_8 + 2)) then (if (wrap64 (x1_8 + 2)) ≤ (a0.size : Int) then (if (a0.extract (x1_8 : Int).toNat ((wrap64 (x1_8 + 2)) : Int).toNat).toList = ([92, 125] : List UInt8) then (some (t110, x5_8, wrap64 (x1_8 + 2), true)) else (some (0, 0, 0, false))) else (none)) else (none)) else (none))) = some (r1, r2, r3, r4) := by rw [if_neg (show ¬ (false = true) by decide)] at H; exact H
        clear H
        have H := H1
        clear H1
        by_cases c19 : (wrap64 (x1_8 + 2)) > (a0.size : Int)
        ·rw [if_pos c19] at H
         have c19b0 : decide ((a0.size : Int) < (wrap64 (x1_8 + 2))) = true := decide_eq_true c19
         clear c19
         simp only [Option.some.injEq, Prod.mk.injEq] at H
         obtain ⟨rfl, rfl, rfl, rfl⟩ := H
         go_wp2
         refine bodyPost_ret (qb3 (rs := [.tmp 4, .tmp 5, .tmp 6, .tmp 7]) rfl (by simp) (.tmp (.tmp (.tmp (.tmp .nil))))) rfl ?_
         exact ⟨by first | rfl | (simp only [wrap_wrap]; done) | (simp only [wrap_wrap]; rfl) | (simp [qah, qai] <;> rfl) | (simp [*, qah, qai] <;> rfl), by repeat (first | (with_reducible first | exact HB.out | apply qa6 | apply qa7 | apply qa8) | exact HB.out)⟩
        ·rw [if_neg c19] at H
         have c19b0 : decide ((a0.size : Int) < (wrap64 (x1_8 + 2))) = false := decide_eq_false c19
         clear c19
         by_cases c20 : 0 ≤ x1_8
         ·rw [if_pos c20] at H
          have c20b0 := eq_true c20
          have c20b1 : decide (0 ≤ x1_8) = true := decide_eq_true c20
          clear c20
          by_cases c21 : x1_8 ≤ (wrap64 (x1_8 + 2))
          ·rw [if_pos c21] at H
           have c21b0 := eq_true c21
           have c21b1 : decide (x1_8 ≤ (wrap64 (x1_8 + 2))) = true := decide_eq_true c21
           by_cases c22 : (wrap64 (x1_8 + 2)) ≤ (a0.size : Int)
           ·rw [if_pos c22] at H
            have c22b0 := eq_true c22
            have c22b1 : decide ((wrap64 (x1_8 + 2)) ≤ (a0.size : Int)) = true := decide_eq_true c22
            by_cases c23 : (a0.extract (x1_8 : Int).toNat ((wrap64 (x1_8 + 2)) : Int).toNat).toList = ([92, 125] : List UInt8)
            ·rw [if_pos c23] at H
             have c23b0 : ((a0.extract (x1_8 : Int).toNat ((wrap64 (x1_8 + 2)) : Int).toNat).toList == ([92, 125] : List UInt8)) = true := beq_iff_eq.mpr c23
             have c23b1 : ((a0.extract (x1_8 : Int).toNat ((wrap64 (x1_8 + 2)) : Int).toNat).toList != ([92, 125] : List UInt8)) = false := bne_eq_false_iff_eq.mpr c23
             clear c23
             simp only [Option.some.injEq, Prod.mk.injEq] at H
             obtain ⟨rfl, rfl, rfl, rfl⟩ := H
             go_wp2
             refine bodyPost_ret (qb3 (rs := [.tmp 4, .tmp 5, .tmp 6, .tmp 7]) rfl (by simp) (.tmp (.tmp (.tmp (.tmp .nil))))) rfl ?_
             exact ⟨by first | rfl | (simp only [wrap_wrap]; done) | (simp only [wrap_wrap]; rfl) | (simp [qah, qai] <;> rfl) | (simp [*, qah, qai] <;> rfl), by repeat (first | (with_reducible first | exact HB.out | apply qa6 | apply qa7 | apply qa8) | exact HB.out)⟩
            ·rw [if_neg c23] at H
             have c23b0 : ((a0.extract (x1_8 : Int).toNat ((wrap64 (x1_8 + 2)) : Int).toNat).toList == ([92, 125] : List UInt8)) = false := beq_eq_false_iff_ne.mpr c23
             have c23b1 : ((a0.extract (x1_8 : Int).toNat ((wrap64 (x1_8 + 2)) : Int).toNat).toList != ([92, 125] : List UInt8)) = true := bne_iff_ne.mpr c23
             simp only [Option.some.injEq, Prod.mk.injEq] at H
             obtain ⟨rfl, rfl, rfl, rfl⟩ := H
             go_wp2
             refine bodyPost_ret (qb3 (rs := [.tmp 4, .tmp 5, .tmp 6, .tmp 7]) rfl (by simp) (.tmp (.tmp (.tmp (.tmp .nil))))) rfl ?_
             exact ⟨by first | rfl | (simp only [wrap_wrap]; done) | (simp only [wrap_wrap]; rfl) | (simp [qah, qai] <;> rfl) | (simp [*, qah, qai] <;> rfl), by repeat (first | (with_reducible first | exact HB.out | apply qa6 | apply qa7 | apply qa8) | exact HB.out)⟩
           ·rw [if_neg c22] at H
            exact absurd H (by simp)
          ·rw [if_neg c21] at H
           exact absurd H (by simp)
         ·rw [if_neg c20] at H
          exact absurd H (by simp)
end Go.Proofs.Ytcmipoicnonaeaa.F
end
section
namespace Go.Proofs.Ytcmipoicnonaeaa.F
open Go.RowKit Go.Proofs.YtcmipoicnonaeaaW.PrintWords Go.Proofs.YtcmipoicnonaeaaW.PrintLast Go.Proofs.YtcmipoicnonaeaaW.PrintMore
attribute [local go_sem] qbs qbr qc7 qc0 qbh qbj qbp qbq
set_option linter.unusedVariables false
set_option linter.unusedSimpArgs false
def qdr.f (a0 : Int) : Option (Bool) := if a0 ≥ 48 then (if a0 ≤ 57 then (some true) else (if (Go.bits .or .u8 a0 32) ≥ 97 then (some (decide ((Go.bits .or .u8 a0 32) ≤ 122))) else (some false))) else (if (Go.bits .or .u8 a0 32) ≥ 97 then (some (decide ((Go.bits .or .u8 a0 32) ≤ 122))) else (some false))
set_option maxHeartbeats 8000000 in
set_option maxRecDepth 100000 in
theorem qdr.calls (a0 : Int) (r : Bool) (w : World) (h : qdr.f a0 = some r) :
    Calls Try.prog 62 #[.int .u8 a0] w fun e w' => e = .returned (.bool r) ∧ qau w w' := by
  have H : (if a0 ≥ 48 then (if a0 ≤ 57 then (some true) else (if (Go.bits .or .u8 a0 32) ≥ 97 then (some (decide ((Go.bits .or .u8 a0 32) ≤ 122))) else (some false))) else (if (Go.bits .or .u8 a0 32) ≥ 97 then (some (decide ((Go.bits .or .u8 a0 32) ≤ 122))) else (some false))) = some r := h
  clear h
  by_cases c2 : a0 ≥ 48
  · rw [if_pos c2] at H
    have c2b0 : decide (48 ≤ a0) = true := decide_eq_true c2
    clear c2
    by_cases c3 : a0 ≤ 57
    · rw [if_pos c3] at H
      have c3b0 : decide (a0 ≤ 57) = true := decide_eq_true c3
      clear c3
      obtain rfl := Option.some.inj H
      go_enter Try.func62, Try.ntmps62
      go_wp2
      go_ret
      exact ⟨by first | rfl | (simp only [wrap_wrap]; done) | (simp only [wrap_wrap]; rfl) | (simp; done) | (simp [*]; done), by repeat (first | exact qau.refl _ | apply qau.step)⟩
    · rw [if_neg c3] at H
      have c3b0 : decide (a0 ≤ 57) = false := decide_eq_false c3
      clear c3
      by_cases c4 : (Go.bits .or .u8 a0 32) ≥ 97
      · rw [if_pos c4] at H
        have c4b0 : decide (97 ≤ (Go.bits .or .u8 a0 32)) = true := decide_eq_true c4
        clear c4
        obtain rfl := Option.some.inj H
        go_enter Try.func62, Try.ntmps62
        go_wp2
        go_ret
        exact ⟨by first | rfl | (simp only [wrap_wrap]; done) | (simp only [wrap_wrap]; rfl) | (simp; done) | (simp [*]; done), by repeat (first | exact qau.refl _ | apply qau.step)⟩
      · rw [if_neg c4] at H
        have c4b0 : decide (97 ≤ (Go.bits .or .u8 a0 32)) = false := decide_eq_false c4
        clear c4
        obtain rfl := Option.some.inj H
        go_enter Try.func62, Try.ntmps62
        go_wp2
        go_ret
        exact ⟨by first | rfl | (simp only [wrap_wrap]; done) | (simp only [wrap_wrap]; rfl) | (simp; done) | (simp [*]; done), by repeat (first | exact qau.refl _ | apply qau.step)⟩
  · rw [if_neg c2] at H
    have c2b0 : decide (48 ≤ a0) = false := decide_eq_false c2
    clear c2
    by_cases c5 : (Go.bits .or .u8 a0 32) ≥ 97
    · rw [if_pos c5] at H
      have c5b0 : decide (97 ≤ (Go.bits .or .u8 a0 32)) = true := decide_eq_true c5
      clear c5
      obtain rfl := Option.some.inj H
      go_enter Try.func62, Try.ntmps62
      go_wp2
      go_ret
      exact ⟨by first | rfl | (simp only [wrap_wrap]; done) | (simp only [wrap_wrap]; rfl) | (simp; done) | (simp [*]; done), by repeat (first | exact qau.refl _ | apply qau.step)⟩
    · rw [if_neg c5] at H
      have c5b0 : decide (97 ≤ (Go.bits .or .u8 a0 32)) = false := decide_eq_false c5
      clear c5
      obtain rfl := Option.some.inj H
      go_enter Try.func62, Try.ntmps62
      go_wp2
      go_ret
      exact ⟨by first | rfl | (simp only [wrap_wrap]; done) | (simp only [wrap_wrap]; rfl) | (simp; done) | (simp [*]; done), by repeat (first | exact qau.refl _ | apply qau.step)⟩
end Go.Proofs.Ytcmipoicnonaeaa.F
end
