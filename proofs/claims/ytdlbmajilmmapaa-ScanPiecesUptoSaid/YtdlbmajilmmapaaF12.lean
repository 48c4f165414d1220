-- Made by a program of this session (wip/tools/pr.py over the kit's printer). Not trusted: Lean checks it.
import Derived.Test.YtdlbmajilmmapaaFx
import Derived.Test.YtdlbmajilmmapaaF28
import Derived.Test.YtdlbmajilmmapaaF30
namespace Go.Proofs.Ytdlbmajilmmapaa.F
open Go.RowKit Go.Proofs.YtdlbmajilmmapaaW.PrintWords Go.Proofs.YtdlbmajilmmapaaW.PrintLast Go.Proofs.YtdlbmajilmmapaaW.PrintMore
attribute [local go_sem] max2_int min2_int max_two min_two max_three min_three max_four min_four
set_option linter.unusedVariables false
set_option linter.unusedSimpArgs false

/-! ### runnellaw17_ScanPieces: function 12 -/
mutual
def runnellaw17_ScanPieces.j0 : Nat → ByteArray → ByteArray → ByteArray → Int → Bool → Option (Bool)
  | 0, _, _, _, _, _ => none
  | k + 1, x0, x1, x2, x3, x30 => if x30 = true then ((runnellaw17_awake.f k).bind fun t329 => (some t329)) else (runnellaw17_ScanPieces.l0 k x0 x1 x2 x3 (strOfNums (([x3] : List Int))) (⟨#[]⟩ : ByteArray) (⟨#[]⟩ : ByteArray) (⟨#[]⟩ : ByteArray) 0)
def runnellaw17_ScanPieces.l0 : Nat → ByteArray → ByteArray → ByteArray → Int → ByteArray → ByteArray → ByteArray → ByteArray → Int → Option (Bool)
  | 0, _, _, _, _, _, _, _, _, _ => none
  | k + 1, x0, x1, x2, x3, x9, x10, x11, x12, x13 => if x13 < (x1.size : Int) then (if 0 ≤ x13 then (if x13 ≤ (wrap64 (x13 + 1)) then (if (wrap64 (x13 + 1)) ≤ (x1.size : Int) then (if (bt x1 x13) = 10 then (runnellaw17_ScanPieces.j2 k x0 x1 x2 x3 x9 x10 x11 x12 x13 (x1.extract (x13 : Int).toNat ((wrap64 (x13 + 1)) : Int).toNat) true) else (runnellaw17_ScanPieces.j2 k x0 x1 x2 x3 x9 x10 x11 x12 x13 (x1.extract (x13 : Int).toNat ((wrap64 (x13 + 1)) : Int).toNat) ((bt x1 x13) == 92))) else (none)) else (none)) else (none)) else (if x0.size + x10.size ≤ 9223372036854775807 then (if (x0 ++ x10).size + x9.size ≤ 9223372036854775807 then (if ((x0 ++ x10) ++ x9).size + x2.size ≤ 9223372036854775807 then ((scan_Until.f k (((x0 ++ x10) ++ x9) ++ x2) (x0.size : Int) x3 false).bind fun bt333 => (if x0.size + x11.size ≤ 9223372036854775807 then (if (x0 ++ x11).size + x9.size ≤ 9223372036854775807 then (if ((x0 ++ x11) ++ x9).size + x2.size ≤ 9223372036854775807 then ((scan_Until.f k (((x0 ++ x11) ++ x9) ++ x2) (x0.size : Int) x3 true).bind fun bt336 => (if bt333.2.2 = 0 then (if bt336.2.2 = 0 then (if bt333.1.toList = x10.toList then (if bt333.2.1 = (wrap64 ((wrap64 ((x0.size : Int) + (x10.size : Int))) + 1)) then (if bt336.1.toList = x12.toList then (some (bt336.2.1 == (wrap64 ((wrap64 ((x0.size : Int) + (x11.size : Int))) + 1)))) else (some false)) else (some false)) else (some false)) else (some false)) else (some false))) else (none)) else (none)) else (none))) else (none)) else (none)) else (none))
def runnellaw17_ScanPieces.j2 : Nat → ByteArray → ByteArray → ByteArray → Int → ByteArray → ByteArray → ByteArray → ByteArray → Int → ByteArray → Bool → Option (Bool)
  | 0, _, _, _, _, _, _, _, _, _, _, _ => none
  | k + 1, x0, x1, x2, x3, x9, x10, x11, x12, x13, x14, x55 => if x55 = true then (runnellaw17_ScanPieces.l0 k x0 x1 x2 x3 x9 x10 x11 x12 (wrap64 (x13 + 1))) else (if 1 + x14.size ≤ 9223372036854775807 then (if x11.size + ((⟨#[92]⟩ : ByteArray) ++ x14).size ≤ 9223372036854775807 then (if x14.toList = x9.toList then (if x3 = 46 then (if x12.size + ((⟨#[92]⟩ : ByteArray) ++ x14).size ≤ 9223372036854775807 then (runnellaw17_ScanPieces.l0 k x0 x1 x2 x3 x9 x10 (x11 ++ ((⟨#[92]⟩ : ByteArray) ++ x14)) (x12 ++ ((⟨#[92]⟩ : ByteArray) ++ x14)) (wrap64 (x13 + 1))) else (none)) else (if x3 = 91 then (if x12.size + ((⟨#[92]⟩ : ByteArray) ++ x14).size ≤ 9223372036854775807 then (runnellaw17_ScanPieces.l0 k x0 x1 x2 x3 x9 x10 (x11 ++ ((⟨#[92]⟩ : ByteArray) ++ x14)) (x12 ++ ((⟨#[92]⟩ : ByteArray) ++ x14)) (wrap64 (x13 + 1))) else (none)) else (if x3 = 42 then (if x12.size + ((⟨#[92]⟩ : ByteArray) ++ x14).size ≤ 9223372036854775807 then (runnellaw17_ScanPieces.l0 k x0 x1 x2 x3 x9 x10 (x11 ++ ((⟨#[92]⟩ : ByteArray) ++ x14)) (x12 ++ ((⟨#[92]⟩ : ByteArray) ++ x14)) (wrap64 (x13 + 1))) else (none)) else (if x3 = 94 then (if x12.size + ((⟨#[92]⟩ : ByteArray) ++ x14).size ≤ 9223372036854775807 then (runnellaw17_ScanPieces.l0 k x0 x1 x2 x3 x9 x10 (x11 ++ ((⟨#[92]⟩ : ByteArray) ++ x14)) (x12 ++ ((⟨#[92]⟩ : ByteArray) ++ x14)) (wrap64 (x13 + 1))) else (none)) else (if x3 = 36 then (if x12.size + ((⟨#[92]⟩ : ByteArray) ++ x14).size ≤ 9223372036854775807 then (runnellaw17_ScanPieces.l0 k x0 x1 x2 x3 x9 x10 (x11 ++ ((⟨#[92]⟩ : ByteArray) ++ x14)) (x12 ++ ((⟨#[92]⟩ : ByteArray) ++ x14)) (wrap64 (x13 + 1))) else (none)) else (if x3 = 38 then (if x12.size + ((⟨#[92]⟩ : ByteArray) ++ x14).size ≤ 9223372036854775807 then (runnellaw17_ScanPieces.l0 k x0 x1 x2 x3 x9 x10 (x11 ++ ((⟨#[92]⟩ : ByteArray) ++ x14)) (x12 ++ ((⟨#[92]⟩ : ByteArray) ++ x14)) (wrap64 (x13 + 1))) else (none)) else (if x12.size + x14.size ≤ 9223372036854775807 then (runnellaw17_ScanPieces.l0 k x0 x1 x2 x3 x9 x10 (x11 ++ ((⟨#[92]⟩ : ByteArray) ++ x14)) (x12 ++ x14) (wrap64 (x13 + 1))) else (none)))))))) else (if x10.size + x14.size ≤ 9223372036854775807 then (if x12.size + ((⟨#[92]⟩ : ByteArray) ++ x14).size ≤ 9223372036854775807 then (runnellaw17_ScanPieces.l0 k x0 x1 x2 x3 x9 (x10 ++ x14) (x11 ++ ((⟨#[92]⟩ : ByteArray) ++ x14)) (x12 ++ ((⟨#[92]⟩ : ByteArray) ++ x14)) (wrap64 (x13 + 1))) else (none)) else (none))) else (none)) else (none))
end
def runnellaw17_ScanPieces.f (k : Nat) (a0 : ByteArray) (a1 : ByteArray) (a2 : ByteArray) (a3 : Int) : Option (Bool) := (runnellaw17_awake.f k).bind fun t328 => (if t328 = true then (if a3 = 10 then (runnellaw17_ScanPieces.j0 k a0 a1 a2 a3 true) else (runnellaw17_ScanPieces.j0 k a0 a1 a2 a3 (a3 == 92))) else (runnellaw17_ScanPieces.j0 k a0 a1 a2 a3 true))
theorem runnellaw17_ScanPieces.mono_l : ∀ k, (∀ y0 y1 y2 y3 y4, LeO (runnellaw17_ScanPieces.j0 k y0 y1 y2 y3 y4) (runnellaw17_ScanPieces.j0 (k + 1) y0 y1 y2 y3 y4)) ∧ (∀ y0 y1 y2 y3 y4 y5 y6 y7 y8, LeO (runnellaw17_ScanPieces.l0 k y0 y1 y2 y3 y4 y5 y6 y7 y8) (runnellaw17_ScanPieces.l0 (k + 1) y0 y1 y2 y3 y4 y5 y6 y7 y8)) ∧ (∀ y0 y1 y2 y3 y4 y5 y6 y7 y8 y9 y10, LeO (runnellaw17_ScanPieces.j2 k y0 y1 y2 y3 y4 y5 y6 y7 y8 y9 y10) (runnellaw17_ScanPieces.j2 (k + 1) y0 y1 y2 y3 y4 y5 y6 y7 y8 y9 y10))
  | 0 => ⟨fun _ _ _ _ _ r h => by simp [runnellaw17_ScanPieces.j0] at h, fun _ _ _ _ _ _ _ _ _ r h => by simp [runnellaw17_ScanPieces.l0] at h, fun _ _ _ _ _ _ _ _ _ _ _ r h => by simp [runnellaw17_ScanPieces.j2] at h⟩
  | k + 1 => by
    obtain ⟨ih0, ih1, ih2⟩ := runnellaw17_ScanPieces.mono_l k
    refine ⟨?_, ?_, ?_⟩
    · intro y0 y1 y2 y3 y4
      unfold runnellaw17_ScanPieces.j0
      repeat' first
      | (with_reducible exact ih0 _ _ _ _ _)
      | (with_reducible exact ih1 _ _ _ _ _ _ _ _ _)
      | (with_reducible exact ih2 _ _ _ _ _ _ _ _ _ _ _)
      | (with_reducible exact runnellaw17_awake.mono _)
      | (with_reducible exact scan_Until.mono _ _ _ _ _)
      | (with_reducible exact LeO.refl _)
      | (with_reducible exact LeO.none _)
      | (with_reducible refine LeO.ite ?_ ?_)
      | (with_reducible refine LeO.bind ?_ (fun _ => ?_))
      | exact ih0 _ _ _ _ _
      | exact ih1 _ _ _ _ _ _ _ _ _
      | exact ih2 _ _ _ _ _ _ _ _ _ _ _
      | exact runnellaw17_awake.mono _
      | exact scan_Until.mono _ _ _ _ _
      | exact LeO.none _
      | refine LeO.ite ?_ ?_
      | refine LeO.bind ?_ (fun _ => ?_)
    · intro y0 y1 y2 y3 y4 y5 y6 y7 y8
      unfold runnellaw17_ScanPieces.l0
      repeat' first
      | (with_reducible exact ih0 _ _ _ _ _)
      | (with_reducible exact ih1 _ _ _ _ _ _ _ _ _)
      | (with_reducible exact ih2 _ _ _ _ _ _ _ _ _ _ _)
      | (with_reducible exact runnellaw17_awake.mono _)
      | (with_reducible exact scan_Until.mono _ _ _ _ _)
      | (with_reducible exact LeO.refl _)
      | (with_reducible exact LeO.none _)
      | (with_reducible refine LeO.ite ?_ ?_)
      | (with_reducible refine LeO.bind ?_ (fun _ => ?_))
      | exact ih0 _ _ _ _ _
      | exact ih1 _ _ _ _ _ _ _ _ _
      | exact ih2 _ _ _ _ _ _ _ _ _ _ _
      | exact runnellaw17_awake.mono _
      | exact scan_Until.mono _ _ _ _ _
      | exact LeO.none _
      | refine LeO.ite ?_ ?_
      | refine LeO.bind ?_ (fun _ => ?_)
    · intro y0 y1 y2 y3 y4 y5 y6 y7 y8 y9 y10
      unfold runnellaw17_ScanPieces.j2
      repeat' first
      | (with_reducible exact ih0 _ _ _ _ _)
      | (with_reducible exact ih1 _ _ _ _ _ _ _ _ _)
      | (with_reducible exact ih2 _ _ _ _ _ _ _ _ _ _ _)
      | (with_reducible exact runnellaw17_awake.mono _)
      | (with_reducible exact scan_Until.mono _ _ _ _ _)
      | (with_reducible exact LeO.refl _)
      | (with_reducible exact LeO.none _)
      | (with_reducible refine LeO.ite ?_ ?_)
      | (with_reducible refine LeO.bind ?_ (fun _ => ?_))
      | exact ih0 _ _ _ _ _
      | exact ih1 _ _ _ _ _ _ _ _ _
      | exact ih2 _ _ _ _ _ _ _ _ _ _ _
      | exact runnellaw17_awake.mono _
      | exact scan_Until.mono _ _ _ _ _
      | exact LeO.none _
      | refine LeO.ite ?_ ?_
      | refine LeO.bind ?_ (fun _ => ?_)
theorem runnellaw17_ScanPieces.mono : ∀ a0 a1 a2 a3 k, LeO (runnellaw17_ScanPieces.f k a0 a1 a2 a3) (runnellaw17_ScanPieces.f (k + 1) a0 a1 a2 a3) := by
  intro a0 a1 a2 a3 k
  obtain ⟨ih0, ih1, ih2⟩ := runnellaw17_ScanPieces.mono_l k
  unfold runnellaw17_ScanPieces.f
  repeat' first
      | (with_reducible exact ih0 _ _ _ _ _)
      | (with_reducible exact ih1 _ _ _ _ _ _ _ _ _)
      | (with_reducible exact ih2 _ _ _ _ _ _ _ _ _ _ _)
      | (with_reducible exact runnellaw17_awake.mono _)
      | (with_reducible exact scan_Until.mono _ _ _ _ _)
      | (with_reducible exact LeO.refl _)
      | (with_reducible exact LeO.none _)
      | (with_reducible refine LeO.ite ?_ ?_)
      | (with_reducible refine LeO.bind ?_ (fun _ => ?_))
      | exact ih0 _ _ _ _ _
      | exact ih1 _ _ _ _ _ _ _ _ _
      | exact ih2 _ _ _ _ _ _ _ _ _ _ _
      | exact runnellaw17_awake.mono _
      | exact scan_Until.mono _ _ _ _ _
      | exact LeO.none _
      | refine LeO.ite ?_ ?_
      | refine LeO.bind ?_ (fun _ => ?_)
set_option maxHeartbeats 8000000 in
set_option maxRecDepth 100000 in
theorem runnellaw17_ScanPieces.calls (k : Nat) (a0 : ByteArray) (a1 : ByteArray) (a2 : ByteArray) (a3 : Int) (r : Bool) (w : World) (h : runnellaw17_ScanPieces.f k a0 a1 a2 a3 = some r) :
    Calls Try.prog 12 #[.string a0, .string a1, .string a2, .int .u8 a3] w fun e w' => e = .returned (.bool r) ∧ Below w.heap.size w w' := by
  have HB := Aside0.mk (Below.refl w.heap.size w)
  have H : ((runnellaw17_awake.f k).bind fun t328 => (if t328 = true then (if a3 = 10 then (runnellaw17_ScanPieces.j0 k a0 a1 a2 a3 true) else (runnellaw17_ScanPieces.j0 k a0 a1 a2 a3 (a3 == 92))) else (runnellaw17_ScanPieces.j0 k a0 a1 a2 a3 true))) = some r := h
  clear h
  have HC5 := Aside0.mk H
  clear H
  go_enter Try.func12, Try.ntmps12
  go_upto_region 1 with (fail)
  go_cut [30] (fun v30 wc => ∃ (kq : Nat) (x30_4 : Bool), v30 = .bool x30_4 ∧ Aside0 (runnellaw17_ScanPieces.j0 kq a0 a1 a2 a3 x30_4 = some r) ∧ Aside0 (kq ≤ k) ∧ Aside0 (Below w.heap.size w wc))
  case first =>
    have H := HC5.out
    clear HC5
    replace H := Option.bind_eq_some_iff.mp H
    obtain ⟨t328, A60, H⟩ := H
    replace H : (if t328 = true then (if a3 = 10 then (runnellaw17_ScanPieces.j0 k a0 a1 a2 a3 true) else (runnellaw17_ScanPieces.j0 k a0 a1 a2 a3 (a3 == 92))) else (runnellaw17_ScanPieces.j0 k a0 a1 a2 a3 true)) = some r := H
    have A6 := Aside0.mk A60
    clear A60
    by_cases c7 : t328 = true
    · subst c7
      have H1 : (if a3 = 10 then (runnellaw17_ScanPieces.j0 k a0 a1 a2 a3 true) else (runnellaw17_ScanPieces.j0 k a0 a1 a2 a3 (a3 == 92))) = some r := by rw [if_pos rfl] at H; exact H
      clear H
      have H := H1
      clear H1
      by_cases c8 : a3 = 10
      · rw [if_pos c8] at H
        have c8b0 : (a3 == 10) = true := beq_iff_eq.mpr c8
        have c8b1 : (a3 != 10) = false := bne_eq_false_iff_eq.mpr c8
        clear c8
        (first | rw [c8b0] | (simp only [i64_w, i32_w]; rw [c8b0]) | skip)
        have H' := Aside0.mk H
        clear H
        go_wp2_with (first | ((with_reducible refine gate_callee (f := 30) rfl ?_); refine goesL_ (some 21) rfl rfl Try.func30 (by kernel_rfl) rfl #[] rfl (by (try simp only [List.map_toArray, List.map_cons, List.map_nil]); first | done | rfl | (simp only [List.length_drop, List.length_take]; rfl)) ?_; (with_reducible refine (runnellaw17_awake.calls k  true _ A6.out).mono ?_); rintro e w9 ⟨rfl, hb⟩; refine ⟨_, rfl, ?_⟩; have n0_ := Aside0.mk (below_step (by repeat (first | (with_reducible first | exact HB.out | apply below_alloc | apply pw_below_drewN | apply below_drew1) | exact HB.out)) hb); clear HB; have HB := n0_; clear n0_; (try clear hb); (try clear hb2); (try clear hk); (try clear hi)))
        go_meet
        case rel => exact ⟨_, (true), (by first | rfl | (simp; done) | (simp [*]; done)), H', ⟨by first | omega | exact Nat.le_refl _⟩, ⟨by repeat (first | (with_reducible first | exact HB.out | apply below_alloc | apply pw_below_drewN | apply below_drew1) | exact HB.out)⟩⟩
      · rw [if_neg c8] at H
        have c8b0 : (a3 == 10) = false := beq_eq_false_iff_ne.mpr c8
        have c8b1 : (a3 != 10) = true := bne_iff_ne.mpr c8
        (first | rw [c8b0] | (simp only [i64_w, i32_w]; rw [c8b0]) | skip)
        have H' := Aside0.mk H
        clear H
        go_wp2_with (first | ((with_reducible refine gate_callee (f := 30) rfl ?_); refine goesL_ (some 21) rfl rfl Try.func30 (by kernel_rfl) rfl #[] rfl (by (try simp only [List.map_toArray, List.map_cons, List.map_nil]); first | done | rfl | (simp only [List.length_drop, List.length_take]; rfl)) ?_; (with_reducible refine (runnellaw17_awake.calls k  true _ A6.out).mono ?_); rintro e w10 ⟨rfl, hb⟩; refine ⟨_, rfl, ?_⟩; have n0_ := Aside0.mk (below_step (by repeat (first | (with_reducible first | exact HB.out | apply below_alloc | apply pw_below_drewN | apply below_drew1) | exact HB.out)) hb); clear HB; have HB := n0_; clear n0_; (try clear hb); (try clear hb2); (try clear hk); (try clear hi)))
        go_meet
        case rel => exact ⟨_, ((a3 == 92)), (by first | rfl | (simp; done) | (simp [*]; done)), H', ⟨by first | omega | exact Nat.le_refl _⟩, ⟨by repeat (first | (with_reducible first | exact HB.out | apply below_alloc | apply pw_below_drewN | apply below_drew1) | exact HB.out)⟩⟩
    · replace c7 := Bool.eq_false_iff.mpr c7
      subst c7
      have H1 : (runnellaw17_ScanPieces.j0 k a0 a1 a2 a3 true) = some r := by rw [if_neg (show ¬ (false = true) by decide)] at H; exact H
      clear H
      have H := H1
      clear H1
      have H' := Aside0.mk H
      clear H
      go_wp2_with (first | ((with_reducible refine gate_callee (f := 30) rfl ?_); refine goesL_ (some 21) rfl rfl Try.func30 (by kernel_rfl) rfl #[] rfl (by (try simp only [List.map_toArray, List.map_cons, List.map_nil]); first | done | rfl | (simp only [List.length_drop, List.length_take]; rfl)) ?_; (with_reducible refine (runnellaw17_awake.calls k  false _ A6.out).mono ?_); rintro e w11 ⟨rfl, hb⟩; refine ⟨_, rfl, ?_⟩; have n0_ := Aside0.mk (below_step (by repeat (first | (with_reducible first | exact HB.out | apply below_alloc | apply pw_below_drewN | apply below_drew1) | exact HB.out)) hb); clear HB; have HB := n0_; clear n0_; (try clear hb); (try clear hb2); (try clear hk); (try clear hi)))
      go_meet
      case rel => exact ⟨_, (true), (by first | rfl | (simp; done) | (simp [*]; done)), H', ⟨by first | omega | exact Nat.le_refl _⟩, ⟨by repeat (first | (with_reducible first | exact HB.out | apply below_alloc | apply pw_below_drewN | apply below_drew1) | exact HB.out)⟩⟩
  case rest =>
    clear HC5
    try clear c1
    try clear p2
    try clear c3
    try clear c7
    try clear c8
    try clear c8b0
    try clear c8b1
    obtain ⟨kq, x30_4, rfl, HA, HJ4, HB⟩ := hcut
    cases kq with
    | zero => exact absurd HA.out (by simp [runnellaw17_ScanPieces.j0])
    | succ kj4 =>
      have H := HA.out
      clear HA
      simp only [runnellaw17_ScanPieces.j0] at H
      by_cases c12 : x30_4 = true
      · subst c12
        have H1 : ((runnellaw17_awake.f kj4).bind fun t329 => (some t329)) = some r := by rw [if_pos rfl] at H; exact H
        clear H
        have H := H1
        clear H1
        replace H := Option.bind_eq_some_iff.mp H
        obtain ⟨t329, A130, H⟩ := H
        replace H : (some t329) = some r := H
        have A13 := Aside0.mk A130
        clear A130
        obtain rfl := Option.some.inj H
        go_wp2_with (first | ((with_reducible refine gate_callee (f := 30) rfl ?_); refine goesL_ (some 31) rfl rfl Try.func30 (by kernel_rfl) rfl #[] rfl (by (try simp only [List.map_toArray, List.map_cons, List.map_nil]); first | done | rfl | (simp only [List.length_drop, List.length_take]; rfl)) ?_; (with_reducible refine (runnellaw17_awake.calls kj4  t329 _ A13.out).mono ?_); rintro e w14 ⟨rfl, hb⟩; refine ⟨_, rfl, ?_⟩; have n0_ := Aside0.mk (below_step (by repeat (first | (with_reducible first | exact HB.out | apply below_alloc | apply pw_below_drewN | apply below_drew1) | exact HB.out)) hb); clear HB; have HB := n0_; clear n0_; (try clear hb); (try clear hb2); (try clear hk); (try clear hi)))
        go_ret
        exact ⟨by first | rfl | (simp only [wrap_wrap]; done) | (simp only [wrap_wrap]; rfl) | (simp [errW_none, errW_some] <;> rfl) | (simp [*, errW_none, errW_some] <;> rfl), by repeat (first | (with_reducible first | exact HB.out | apply below_alloc | apply pw_below_drewN | apply below_drew1) | exact HB.out)⟩
      · replace c12 := Bool.eq_false_iff.mpr c12
        subst c12
        have H1 : (runnellaw17_ScanPieces.l0 kj4 a0 a1 a2 a3 (strOfNums (([a3] : List Int))) (⟨#[]⟩ : ByteArray) (⟨#[]⟩ : ByteArray) (⟨#[]⟩ : ByteArray) 0) = some r := by rw [if_neg (show ¬ (false = true) by decide)] at H; exact H
        clear H
        have H := H1
        clear H1
        obtain ⟨y330, hy330⟩ : ∃ y_ : List Int, y_ = (([a3] : List Int)) := ⟨_, rfl⟩
        replace H : (runnellaw17_ScanPieces.l0 kj4 a0 a1 a2 a3 (strOfNums y330) (⟨#[]⟩ : ByteArray) (⟨#[]⟩ : ByteArray) (⟨#[]⟩ : ByteArray) 0) = some r := by first | (rw [hy330]; with_reducible exact H) | (have H2_ := (Option.bind_some _ _).symm.trans H; rw [hy330]; with_reducible exact H2_) | (have H2_ := (Option.bind_some _ _).symm.trans H; with_reducible exact H2_) | with_reducible exact H | (rw [hy330]; exact H) | exact H
        have Ny330 := Aside0.mk hy330
        clear hy330
        have H' := Aside0.mk H
        clear H
        go_wp2_with (first | ((with_reducible refine gate_dst (N := 33) rfl ?_); (try (refine gate_guard (by rfl) ?_; dsimp only)); refine Kd.R_lit (Kd.int .u8) _ 5 ?hg (N := 33) ?hd (xs := ([a3] : List Int)) (inner := [.int .u8 a3]) (ok := fun _ => True) (okp := fun _ => True) ?hr ?hp (fun _ hk => hk) trivial (Below.refl _ _) (Nat.le_refl _) (by simp) ?_; (case hd => rfl); (case hg => rfl); (case hr => first | (go_simp; done) | (go_simp; rfl)); (case hp => exact (Reps.one (show Kd.M (Kd.int .u8) _ _ _ a3 [.int .u8 a3] from rfl) (Reps.none _ _))); intro v331 w15 ho16 hb hg_ hnew_; clear hg_ hnew_; (first | rw [← Ny330.out] at ho16 | (simp only [Int.reduceToNat] at ho16; rw [← Ny330.out] at ho16)); have n0_ := Aside0.mk (Kd.R_lower ho16 (below_size (by repeat (first | (with_reducible first | exact HB.out | apply below_alloc | apply pw_below_drewN | apply below_drew1) | exact HB.out)))); have n1_ := Aside0.mk (below_step (by repeat (first | (with_reducible first | exact HB.out | apply below_alloc | apply pw_below_drewN | apply below_drew1) | exact HB.out)) hb); clear HB; have HO332 := n0_; have HB := n1_; clear n0_ n1_; clear hb ho16; have hcv17 := own_string (P := Try.prog) Try.underlying39 Try.underlying5 Try.underlying9 (Kd.own_of_R HO332.out)))
        go_loopg [10, 11, 12, 13] kj4 (fun kq v10 v11 v12 v13 w' => ∃ (x10_2 : ByteArray) (x11_2 : ByteArray) (x12_2 : ByteArray) (x13_2 : Int), v10 = .string x10_2 ∧ v11 = .string x11_2 ∧ v12 = .string x12_2 ∧ v13 = .int .i64 x13_2 ∧ Aside0 (runnellaw17_ScanPieces.l0 kq a0 a1 a2 a3 (strOfNums y330) x10_2 x11_2 x12_2 x13_2 = some r) ∧ Aside0 (kq ≤ kj4) ∧ Aside0 (Below w.heap.size w w'))
        case atStart => exact ⟨((⟨#[]⟩ : ByteArray)), ((⟨#[]⟩ : ByteArray)), ((⟨#[]⟩ : ByteArray)), (0), (by first | rfl | (simp; done) | (simp [*]; done)), (by first | rfl | (simp; done) | (simp [*]; done)), (by first | rfl | (simp; done) | (simp [*]; done)), (by first | rfl | (simp; done) | (simp [*]; done)), H', ⟨Nat.le_refl _⟩, ⟨by repeat (first | (with_reducible first | exact HB.out | apply below_alloc | apply pw_below_drewN | apply below_drew1) | exact HB.out)⟩⟩
        case round =>
          clear H'
          try clear c1
          try clear hcv1
          try clear p2
          try clear c3
          try clear c7
          try clear c8
          try clear c8b0
          try clear c8b1
          try clear c12
          try clear hcv17
          try clear p2
          obtain ⟨x10_2, x11_2, x12_2, x13_2, rfl, rfl, rfl, rfl, HA, HK2, HB⟩ := hrel
          cases gk with
          | zero => exact absurd HA.out (by simp [runnellaw17_ScanPieces.l0])
          | succ k2 =>
            have H := HA.out
            clear HA
            simp only [runnellaw17_ScanPieces.l0] at H
            by_cases c18 : x13_2 < (a1.size : Int)
            · rw [if_pos c18] at H
              have c18b0 : decide (x13_2 < (a1.size : Int)) = true := decide_eq_true c18
              clear c18
              by_cases c19 : 0 ≤ x13_2
              · rw [if_pos c19] at H
                have c19b0 := eq_true c19
                have c19b1 : decide (0 ≤ x13_2) = true := decide_eq_true c19
                clear c19
                by_cases c20 : x13_2 ≤ (wrap64 (x13_2 + 1))
                · rw [if_pos c20] at H
                  have c20b0 := eq_true c20
                  have c20b1 : decide (x13_2 ≤ (wrap64 (x13_2 + 1))) = true := decide_eq_true c20
                  by_cases c21 : (wrap64 (x13_2 + 1)) ≤ (a1.size : Int)
                  · rw [if_pos c21] at H
                    have c21b0 := eq_true c21
                    have c21b1 : decide ((wrap64 (x13_2 + 1)) ≤ (a1.size : Int)) = true := decide_eq_true c21
                    have HC22 := Aside0.mk H
                    clear H
                    go_upto_region 9 with (fail)
                    go_cut [55] (fun v55 wc => ∃ (kq : Nat) (x55_21 : Bool), v55 = .bool x55_21 ∧ Aside0 (runnellaw17_ScanPieces.j2 kq a0 a1 a2 a3 (strOfNums y330) x10_2 x11_2 x12_2 x13_2 (a1.extract (x13_2 : Int).toNat ((wrap64 (x13_2 + 1)) : Int).toNat) x55_21 = some r) ∧ Aside0 (kq ≤ k2) ∧ Aside0 (Below w.heap.size w wc))
                    case first =>
                      have H := HC22.out
                      clear HC22
                      by_cases c24 : (bt a1 x13_2) = 10
                      · rw [if_pos c24] at H
                        have c24b0 : ((bt a1 x13_2) == 10) = true := beq_iff_eq.mpr c24
                        have c24b1 : ((bt a1 x13_2) != 10) = false := bne_eq_false_iff_eq.mpr c24
                        clear c24
                        (first | rw [c24b0] | (simp only [i64_w, i32_w]; rw [c24b0]) | skip)
                        have H' := Aside0.mk H
                        clear H
                        have p23 : 0 ≤ (x13_2 : Int) := of_decide_eq_true (by first | (with_reducible assumption) | assumption)
                        have q23 : x13_2 < (a1.size : Int) := of_decide_eq_true (by first | (with_reducible assumption) | assumption)
                        have hx23 := bt_at a1 x13_2
                        replace p23 := eq_true p23
                        replace q23 := eq_true q23
                        go_wp2
                        go_meet
                        case rel => exact ⟨_, (true), (by first | rfl | (simp; done) | (simp [*]; done)), H', ⟨by have := HJ4.out; have := HK2.out; first | omega | exact Nat.le_refl _⟩, ⟨by repeat (first | (with_reducible first | exact HB.out | apply below_alloc | apply pw_below_drewN | apply below_drew1) | exact HB.out)⟩⟩
                      · rw [if_neg c24] at H
                        have c24b0 : ((bt a1 x13_2) == 10) = false := beq_eq_false_iff_ne.mpr c24
                        have c24b1 : ((bt a1 x13_2) != 10) = true := bne_iff_ne.mpr c24
                        (first | rw [c24b0] | (simp only [i64_w, i32_w]; rw [c24b0]) | skip)
                        have H' := Aside0.mk H
                        clear H
                        have p23 : 0 ≤ (x13_2 : Int) := of_decide_eq_true (by first | (with_reducible assumption) | assumption)
                        have q23 : x13_2 < (a1.size : Int) := of_decide_eq_true (by first | (with_reducible assumption) | assumption)
                        have hx23 := bt_at a1 x13_2
                        replace p23 := eq_true p23
                        replace q23 := eq_true q23
                        have p25 : 0 ≤ (x13_2 : Int) := of_decide_eq_true (by first | (with_reducible assumption) | assumption)
                        have q25 : x13_2 < (a1.size : Int) := of_decide_eq_true (by first | (with_reducible assumption) | assumption)
                        have hx25 := bt_at a1 x13_2
                        replace p25 := eq_true p25
                        replace q25 := eq_true q25
                        go_wp2
                        go_meet
                        case rel => exact ⟨_, (((bt a1 x13_2) == 92)), (by first | rfl | (simp; done) | (simp [*]; done)), H', ⟨by have := HJ4.out; have := HK2.out; first | omega | exact Nat.le_refl _⟩, ⟨by repeat (first | (with_reducible first | exact HB.out | apply below_alloc | apply pw_below_drewN | apply below_drew1) | exact HB.out)⟩⟩
                    case rest =>
                      clear HC22
                      try clear c1
                      try clear hcv1
                      try clear c2
                      try clear p2
                      try clear q2
                      try clear hx2
                      try clear c3
                      try clear p6
                      try clear c7
                      try clear c8
                      try clear c8b0
                      try clear c8b1
                      try clear c12
                      try clear hcv17
                      try clear c18
                      try clear c18b0
                      try clear c19
                      try clear c19b0
                      try clear c19b1
                      try clear c20
                      try clear c20b0
                      try clear c20b1
                      try clear c21
                      try clear c21b0
                      try clear c21b1
                      try clear p23
                      try clear q23
                      try clear hx23
                      try clear c24
                      try clear c24b0
                      try clear c24b1
                      try clear p25
                      try clear q25
                      try clear hx25
                      try clear p2
                      try clear p23
                      try clear p25
                      try clear q23
                      try clear q25
                      obtain ⟨kq, x55_21, rfl, HA, HJ21, HB⟩ := hcut
                      cases kq with
                      | zero => exact absurd HA.out (by simp [runnellaw17_ScanPieces.j2])
                      | succ kj21 =>
                        have H := HA.out
                        clear HA
                        simp only [runnellaw17_ScanPieces.j2] at H
                        by_cases c26 : x55_21 = true
                        · subst c26
                          have H1 : (runnellaw17_ScanPieces.l0 kj21 a0 a1 a2 a3 (strOfNums y330) x10_2 x11_2 x12_2 (wrap64 (x13_2 + 1))) = some r := by rw [if_pos rfl] at H; exact H
                          clear H
                          have H := H1
                          clear H1
                          have H' := Aside0.mk H
                          clear H
                          go_wp2
                          go_roundg kj21
                          case measure => have := HJ4.out; have := HK2.out; have := HJ21.out; omega
                          case rel => exact ⟨(x10_2), (x11_2), (x12_2), (wrap64 (x13_2 + 1)), (by first | rfl | (simp; done) | (simp [*]; done)), (by first | rfl | (simp; done) | (simp [*]; done)), (by first | rfl | (simp; done) | (simp [*]; done)), (by first | rfl | (simp; done) | (simp [*]; done)), H', ⟨by have := HJ4.out; have := HK2.out; have := HJ21.out; omega⟩, ⟨by repeat (first | (with_reducible first | exact HB.out | apply below_alloc | apply pw_below_drewN | apply below_drew1) | exact HB.out)⟩⟩
                        · replace c26 := Bool.eq_false_iff.mpr c26
                          subst c26
                          have H1 : (if 1 + (a1.extract (x13_2 : Int).toNat ((wrap64 (x13_2 + 1)) : Int).toNat).size ≤ 9223372036854775807 then (if x11_2.size + ((⟨#[92]⟩ : ByteArray) ++ (a1.extract (x13_2 : Int).toNat ((wrap64 (x13_2 + 1)) : Int).toNat)).size ≤ 9223372036854775807 then (if (a1.extract (x13_2 : Int).toNat ((wrap64 (x13_2 + 1)) : Int).toNat).toList = (strOfNums y330).toList then (if a3 = 46 then (if x12_2.size + ((⟨#[92]⟩ : ByteArray) ++ (a1.extract (x13_2 : Int).toNat ((wrap64 (x13_2 + 1)) : Int).toNat)).size ≤ 9223372036854775807 then (runnellaw17_ScanPieces.l0 kj21 a0 a1 a2 a3 (strOfNums y330) x10_2 (x11_2 ++ ((⟨#[92]⟩ : ByteArray) ++ (a1.extract (x13_2 : Int).toNat ((wrap64 (x13_2 + 1)) : Int).toNat))) (x12_2 ++ ((⟨#[92]⟩ : ByteArray) ++ (a1.extract (x13_2 : Int).toNat ((wrap64 (x13_2 + 1)) : Int).toNat))) (wrap64 (x13_2 + 1))) else (none)) else (if a3 = 91 then (if x12_2.size + ((⟨#[92]⟩ : ByteArray) ++ (a1.extract (x13_2 : Int).toNat ((wrap64 (x13_2 + 1)) : Int).toNat)).size ≤ 9223372036854775807 then (runnellaw17_ScanPieces.l0 kj21 a0 a1 a2 a3 (strOfNums y330) x10_2 (x11_2 ++ ((⟨#[92]⟩ : ByteArray) ++ (a1.extract (x13_2 : Int).toNat ((wrap64 (x13_2 + 1)) : Int).toNat))) (x12_2 ++ ((⟨#[92]⟩ : ByteArray) ++ (a1.extract (x13_2 : Int).toNat ((wrap64 (x13_2 + 1)) : Int).toNat))) (wrap64 (x13_2 + 1))) else (none)) else (if a3 = 42 then (if x12_2.size + ((⟨#[92]⟩ : ByteArray) ++ (a1.extract (x13_2 : Int).toNat ((wrap64 (x13_2 + 1)) : Int).toNat)).size ≤ 9223372036854775807 then (runnellaw17_ScanPieces.l0 kj21 a0 a1 a2 a3 (strOfNums y330) x10_2 (x11_2 ++ ((⟨#[92]⟩ : ByteArray) ++ (a1.extract (x13_2 : Int).toNat ((wrap64 (x13_2 + 1)) : Int).toNat))) (x12_2 ++ ((⟨#[92]⟩ : ByteArray) ++ (a1.extract (x13_2 : Int).toNat ((wrap64 (x13_2 + 1)) : Int).toNat))) (wrap64 (x13_2 + 1))) else (none)) else (if a3 = 94 then (if x12_2.size + ((⟨#[92]⟩ : ByteArray) ++ (a1.extract (x13_2 : Int).toNat ((wrap64 (x13_2 + 1)) : Int).toNat)).size ≤ 9223372036854775807 then (runnellaw17_ScanPieces.l0 kj21 a0 a1 a2 a3 (strOfNums y330) x10_2 (x11_2 ++ ((⟨#[92]⟩ : ByteArray) ++ (a1.extract (x13_2 : Int).toNat ((wrap64 (x13_2 + 1)) : Int).toNat))) (x12_2 ++ ((⟨#[92]⟩ : ByteArray) ++ (a1.extract (x13_2 : Int).toNat ((wrap64 (x13_2 + 1)) : Int).toNat))) (wrap64 (x13_2 + 1))) else (none)) else (if a3 = 36 then (if x12_2.size + ((⟨#[92]⟩ : ByteArray) ++ (a1.extract (x13_2 : Int).toNat ((wrap64 (x13_2 + 1)) : Int).toNat)).size ≤ 9223372036854775807 then (runnellaw17_ScanPieces.l0 kj21 a0 a1 a2 a3 (strOfNums y330) x10_2 (x11_2 ++ ((⟨#[92]⟩ : ByteArray) ++ (a1.extract (x13_2 : Int).toNat ((wrap64 (x13_2 + 1)) : Int).toNat))) (x12_2 ++ ((⟨#[92]⟩ : ByteArray) ++ (a1.extract (x13_2 : Int).toNat ((wrap64 (x13_2 + 1)) : Int).toNat))) (wrap64 (x13_2 + 1))) else (none)) else (if a3 = 38 then (if x12_2.size + ((⟨#[92]⟩ : ByteArray) ++ (a1.extract (x13_2 : Int).toNat ((wrap64 (x13_2 + 1)) : Int).toNat)).size ≤ 9223372036854775807 then (runnellaw17_ScanPieces.l0 kj21 a0 a1 a2 a3 (strOfNums y330) x10_2 (x11_2 ++ ((⟨#[92]⟩ : ByteArray) ++ (a1.extract (x13_2 : Int).toNat ((wrap64 (x13_2 + 1)) : Int).toNat))) (x12_2 ++ ((⟨#[92]⟩ : ByteArray) ++ (a1.extract (x13_2 : Int).toNat ((wrap64 (x13_2 + 1)) : Int).toNat))) (wrap64 (x13_2 + 1))) else (none)) else (if x12_2.size + (a1.extract (x13_2 : Int).toNat ((wrap64 (x13_2 + 1)) : Int).toNat).size ≤ 9223372036854775807 then (runnellaw17_ScanPieces.l0 kj21 a0 a1 a2 a3 (strOfNums y330) x10_2 (x11_2 ++ ((⟨#[92]⟩ : ByteArray) ++ (a1.extract (x13_2 : Int).toNat ((wrap64 (x13_2 + 1)) : Int).toNat))) (x12_2 ++ (a1.extract (x13_2 : Int).toNat ((wrap64 (x13_2 + 1)) : Int).toNat)) (wrap64 (x13_2 + 1))) else (none)))))))) else (if x10_2.size + (a1.extract (x13_2 : Int).toNat ((wrap64 (x13_2 + 1)) : Int).toNat).size ≤ 9223372036854775807 then (if x12_2.size + ((⟨#[92]⟩ : ByteArray) ++ (a1.extract (x13_2 : Int).toNat ((wrap64 (x13_2 + 1)) : Int).toNat)).size ≤ 9223372036854775807 then (runnellaw17_ScanPieces.l0 kj21 a0 a1 a2 a3 (strOfNums y330) (x10_2 ++ (a1.extract (x13_2 : Int).toNat ((wrap64 (x13_2 + 1)) : Int).toNat)) (x11_2 ++ ((⟨#[92]⟩ : ByteArray) ++ (a1.extract (x13_2 : Int).toNat ((wrap64 (x13_2 + 1)) : Int).toNat))) (x12_2 ++ ((⟨#[92]⟩ : ByteArray) ++ (a1.extract (x13_2 : Int).toNat ((wrap64 (x13_2 + 1)) : Int).toNat))) (wrap64 (x13_2 + 1))) else (none)) else (none))) else (none)) else (none)) = some r := by rw [if_neg (show ¬ (false = true) by decide)] at H; exact H
                          clear H
                          have H := H1
                          clear H1
                          by_cases c27 : 1 + (a1.extract (x13_2 : Int).toNat ((wrap64 (x13_2 + 1)) : Int).toNat).size ≤ 9223372036854775807
                          · rw [if_pos c27] at H
                            have c27b0 := eq_true c27
                            have c27b1 : decide (1 + (a1.extract (x13_2 : Int).toNat ((wrap64 (x13_2 + 1)) : Int).toNat).size ≤ 9223372036854775807) = true := decide_eq_true c27
                            try have c27b2 : (9223372036854775807 < 1 + (a1.extract (x13_2 : Int).toNat ((wrap64 (x13_2 + 1)) : Int).toNat).size) = False := eq_false (Nat.not_lt.2 c27)
                            (try (have c27b3 := c27; simp only [ByteArray.size_append', ByteArray.size_mk', ByteArray.size_extract, List.size_toArray, List.length_cons, List.length_nil, Nat.reduceAdd] at c27b3; have c27b4 := eq_true c27b3; have c27b5 := eq_false (Nat.not_lt.2 c27b3)))
                            by_cases c28 : x11_2.size + ((⟨#[92]⟩ : ByteArray) ++ (a1.extract (x13_2 : Int).toNat ((wrap64 (x13_2 + 1)) : Int).toNat)).size ≤ 9223372036854775807
                            · rw [if_pos c28] at H
                              have c28b0 := eq_true c28
                              have c28b1 : decide (x11_2.size + ((⟨#[92]⟩ : ByteArray) ++ (a1.extract (x13_2 : Int).toNat ((wrap64 (x13_2 + 1)) : Int).toNat)).size ≤ 9223372036854775807) = true := decide_eq_true c28
                              try have c28b2 : (9223372036854775807 < x11_2.size + ((⟨#[92]⟩ : ByteArray) ++ (a1.extract (x13_2 : Int).toNat ((wrap64 (x13_2 + 1)) : Int).toNat)).size) = False := eq_false (Nat.not_lt.2 c28)
                              (try (have c28b3 := c28; simp only [ByteArray.size_append', ByteArray.size_mk', ByteArray.size_extract, List.size_toArray, List.length_cons, List.length_nil, Nat.reduceAdd] at c28b3; have c28b4 := eq_true c28b3; have c28b5 := eq_false (Nat.not_lt.2 c28b3)))
                              by_cases c29 : (a1.extract (x13_2 : Int).toNat ((wrap64 (x13_2 + 1)) : Int).toNat).toList = (strOfNums y330).toList
                              · rw [if_pos c29] at H
                                have c29b0 : ((a1.extract (x13_2 : Int).toNat ((wrap64 (x13_2 + 1)) : Int).toNat).toList == (strOfNums y330).toList) = true := beq_iff_eq.mpr c29
                                have c29b1 : ((a1.extract (x13_2 : Int).toNat ((wrap64 (x13_2 + 1)) : Int).toNat).toList != (strOfNums y330).toList) = false := bne_eq_false_iff_eq.mpr c29
                                clear c29
                                by_cases c30 : a3 = 46
                                · rw [if_pos c30] at H
                                  have c30b0 : (a3 == 46) = true := beq_iff_eq.mpr c30
                                  have c30b1 : (a3 != 46) = false := bne_eq_false_iff_eq.mpr c30
                                  clear c30
                                  by_cases c31 : x12_2.size + ((⟨#[92]⟩ : ByteArray) ++ (a1.extract (x13_2 : Int).toNat ((wrap64 (x13_2 + 1)) : Int).toNat)).size ≤ 9223372036854775807
                                  · rw [if_pos c31] at H
                                    have c31b0 := eq_true c31
                                    have c31b1 : decide (x12_2.size + ((⟨#[92]⟩ : ByteArray) ++ (a1.extract (x13_2 : Int).toNat ((wrap64 (x13_2 + 1)) : Int).toNat)).size ≤ 9223372036854775807) = true := decide_eq_true c31
                                    try have c31b2 : (9223372036854775807 < x12_2.size + ((⟨#[92]⟩ : ByteArray) ++ (a1.extract (x13_2 : Int).toNat ((wrap64 (x13_2 + 1)) : Int).toNat)).size) = False := eq_false (Nat.not_lt.2 c31)
                                    (try (have c31b3 := c31; simp only [ByteArray.size_append', ByteArray.size_mk', ByteArray.size_extract, List.size_toArray, List.length_cons, List.length_nil, Nat.reduceAdd] at c31b3; have c31b4 := eq_true c31b3; have c31b5 := eq_false (Nat.not_lt.2 c31b3)))
                                    have H' := Aside0.mk H
                                    clear H
                                    go_wp2
                                    go_roundg kj21
                                    case measure => have := HJ4.out; have := HK2.out; have := HJ21.out; omega
                                    case rel => exact ⟨(x10_2), (x11_2 ++ ((⟨#[92]⟩ : ByteArray) ++ (a1.extract (x13_2 : Int).toNat ((wrap64 (x13_2 + 1)) : Int).toNat))), (x12_2 ++ ((⟨#[92]⟩ : ByteArray) ++ (a1.extract (x13_2 : Int).toNat ((wrap64 (x13_2 + 1)) : Int).toNat))), (wrap64 (x13_2 + 1)), (by first | rfl | (simp; done) | (simp [*]; done)), (by first | rfl | (simp; done) | (simp [*]; done)), (by first | rfl | (simp; done) | (simp [*]; done)), (by first | rfl | (simp; done) | (simp [*]; done)), H', ⟨by have := HJ4.out; have := HK2.out; have := HJ21.out; omega⟩, ⟨by repeat (first | (with_reducible first | exact HB.out | apply below_alloc | apply pw_below_drewN | apply below_drew1) | exact HB.out)⟩⟩
                                  · rw [if_neg c31] at H
                                    exact absurd H (by simp)
                                · rw [if_neg c30] at H
                                  have c30b0 : (a3 == 46) = false := beq_eq_false_iff_ne.mpr c30
                                  have c30b1 : (a3 != 46) = true := bne_iff_ne.mpr c30
                                  by_cases c32 : a3 = 91
                                  · rw [if_pos c32] at H
                                    have c32b0 : (a3 == 91) = true := beq_iff_eq.mpr c32
                                    have c32b1 : (a3 != 91) = false := bne_eq_false_iff_eq.mpr c32
                                    clear c32
                                    by_cases c33 : x12_2.size + ((⟨#[92]⟩ : ByteArray) ++ (a1.extract (x13_2 : Int).toNat ((wrap64 (x13_2 + 1)) : Int).toNat)).size ≤ 9223372036854775807
                                    · rw [if_pos c33] at H
                                      have c33b0 := eq_true c33
                                      have c33b1 : decide (x12_2.size + ((⟨#[92]⟩ : ByteArray) ++ (a1.extract (x13_2 : Int).toNat ((wrap64 (x13_2 + 1)) : Int).toNat)).size ≤ 9223372036854775807) = true := decide_eq_true c33
                                      try have c33b2 : (9223372036854775807 < x12_2.size + ((⟨#[92]⟩ : ByteArray) ++ (a1.extract (x13_2 : Int).toNat ((wrap64 (x13_2 + 1)) : Int).toNat)).size) = False := eq_false (Nat.not_lt.2 c33)
                                      (try (have c33b3 := c33; simp only [ByteArray.size_append', ByteArray.size_mk', ByteArray.size_extract, List.size_toArray, List.length_cons, List.length_nil, Nat.reduceAdd] at c33b3; have c33b4 := eq_true c33b3; have c33b5 := eq_false (Nat.not_lt.2 c33b3)))
                                      have H' := Aside0.mk H
                                      clear H
                                      go_wp2
                                      go_roundg kj21
                                      case measure => have := HJ4.out; have := HK2.out; have := HJ21.out; omega
                                      case rel => exact ⟨(x10_2), (x11_2 ++ ((⟨#[92]⟩ : ByteArray) ++ (a1.extract (x13_2 : Int).toNat ((wrap64 (x13_2 + 1)) : Int).toNat))), (x12_2 ++ ((⟨#[92]⟩ : ByteArray) ++ (a1.extract (x13_2 : Int).toNat ((wrap64 (x13_2 + 1)) : Int).toNat))), (wrap64 (x13_2 + 1)), (by first | rfl | (simp; done) | (simp [*]; done)), (by first | rfl | (simp; done) | (simp [*]; done)), (by first | rfl | (simp; done) | (simp [*]; done)), (by first | rfl | (simp; done) | (simp [*]; done)), H', ⟨by have := HJ4.out; have := HK2.out; have := HJ21.out; omega⟩, ⟨by repeat (first | (with_reducible first | exact HB.out | apply below_alloc | apply pw_below_drewN | apply below_drew1) | exact HB.out)⟩⟩
                                    · rw [if_neg c33] at H
                                      exact absurd H (by simp)
                                  · rw [if_neg c32] at H
                                    have c32b0 : (a3 == 91) = false := beq_eq_false_iff_ne.mpr c32
                                    have c32b1 : (a3 != 91) = true := bne_iff_ne.mpr c32
                                    by_cases c34 : a3 = 42
                                    · rw [if_pos c34] at H
                                      have c34b0 : (a3 == 42) = true := beq_iff_eq.mpr c34
                                      have c34b1 : (a3 != 42) = false := bne_eq_false_iff_eq.mpr c34
                                      clear c34
                                      by_cases c35 : x12_2.size + ((⟨#[92]⟩ : ByteArray) ++ (a1.extract (x13_2 : Int).toNat ((wrap64 (x13_2 + 1)) : Int).toNat)).size ≤ 9223372036854775807
                                      · rw [if_pos c35] at H
                                        have c35b0 := eq_true c35
                                        have c35b1 : decide (x12_2.size + ((⟨#[92]⟩ : ByteArray) ++ (a1.extract (x13_2 : Int).toNat ((wrap64 (x13_2 + 1)) : Int).toNat)).size ≤ 9223372036854775807) = true := decide_eq_true c35
                                        try have c35b2 : (9223372036854775807 < x12_2.size + ((⟨#[92]⟩ : ByteArray) ++ (a1.extract (x13_2 : Int).toNat ((wrap64 (x13_2 + 1)) : Int).toNat)).size) = False := eq_false (Nat.not_lt.2 c35)
                                        (try (have c35b3 := c35; simp only [ByteArray.size_append', ByteArray.size_mk', ByteArray.size_extract, List.size_toArray, List.length_cons, List.length_nil, Nat.reduceAdd] at c35b3; have c35b4 := eq_true c35b3; have c35b5 := eq_false (Nat.not_lt.2 c35b3)))
                                        have H' := Aside0.mk H
                                        clear H
                                        go_wp2
                                        go_roundg kj21
                                        case measure => have := HJ4.out; have := HK2.out; have := HJ21.out; omega
                                        case rel => exact ⟨(x10_2), (x11_2 ++ ((⟨#[92]⟩ : ByteArray) ++ (a1.extract (x13_2 : Int).toNat ((wrap64 (x13_2 + 1)) : Int).toNat))), (x12_2 ++ ((⟨#[92]⟩ : ByteArray) ++ (a1.extract (x13_2 : Int).toNat ((wrap64 (x13_2 + 1)) : Int).toNat))), (wrap64 (x13_2 + 1)), (by first | rfl | (simp; done) | (simp [*]; done)), (by first | rfl | (simp; done) | (simp [*]; done)), (by first | rfl | (simp; done) | (simp [*]; done)), (by first | rfl | (simp; done) | (simp [*]; done)), H', ⟨by have := HJ4.out; have := HK2.out; have := HJ21.out; omega⟩, ⟨by repeat (first | (with_reducible first | exact HB.out | apply below_alloc | apply pw_below_drewN | apply below_drew1) | exact HB.out)⟩⟩
                                      · rw [if_neg c35] at H
                                        exact absurd H (by simp)
                                    · rw [if_neg c34] at H
                                      have c34b0 : (a3 == 42) = false := beq_eq_false_iff_ne.mpr c34
                                      have c34b1 : (a3 != 42) = true := bne_iff_ne.mpr c34
                                      by_cases c36 : a3 = 94
                                      · rw [if_pos c36] at H
                                        have c36b0 : (a3 == 94) = true := beq_iff_eq.mpr c36
                                        have c36b1 : (a3 != 94) = false := bne_eq_false_iff_eq.mpr c36
                                        clear c36
                                        by_cases c37 : x12_2.size + ((⟨#[92]⟩ : ByteArray) ++ (a1.extract (x13_2 : Int).toNat ((wrap64 (x13_2 + 1)) : Int).toNat)).size ≤ 9223372036854775807
                                        · rw [if_pos c37] at H
                                          have c37b0 := eq_true c37
                                          have c37b1 : decide (x12_2.size + ((⟨#[92]⟩ : ByteArray) ++ (a1.extract (x13_2 : Int).toNat ((wrap64 (x13_2 + 1)) : Int).toNat)).size ≤ 9223372036854775807) = true := decide_eq_true c37
                                          try have c37b2 : (9223372036854775807 < x12_2.size + ((⟨#[92]⟩ : ByteArray) ++ (a1.extract (x13_2 : Int).toNat ((wrap64 (x13_2 + 1)) : Int).toNat)).size) = False := eq_false (Nat.not_lt.2 c37)
                                          (try (have c37b3 := c37; simp only [ByteArray.size_append', ByteArray.size_mk', ByteArray.size_extract, List.size_toArray, List.length_cons, List.length_nil, Nat.reduceAdd] at c37b3; have c37b4 := eq_true c37b3; have c37b5 := eq_false (Nat.not_lt.2 c37b3)))
                                          have H' := Aside0.mk H
                                          clear H
                                          go_wp2
                                          go_roundg kj21
                                          case measure => have := HJ4.out; have := HK2.out; have := HJ21.out; omega
                                          case rel => exact ⟨(x10_2), (x11_2 ++ ((⟨#[92]⟩ : ByteArray) ++ (a1.extract (x13_2 : Int).toNat ((wrap64 (x13_2 + 1)) : Int).toNat))), (x12_2 ++ ((⟨#[92]⟩ : ByteArray) ++ (a1.extract (x13_2 : Int).toNat ((wrap64 (x13_2 + 1)) : Int).toNat))), (wrap64 (x13_2 + 1)), (by first | rfl | (simp; done) | (simp [*]; done)), (by first | rfl | (simp; done) | (simp [*]; done)), (by first | rfl | (simp; done) | (simp [*]; done)), (by first | rfl | (simp; done) | (simp [*]; done)), H', ⟨by have := HJ4.out; have := HK2.out; have := HJ21.out; omega⟩, ⟨by repeat (first | (with_reducible first | exact HB.out | apply below_alloc | apply pw_below_drewN | apply below_drew1) | exact HB.out)⟩⟩
                                        · rw [if_neg c37] at H
                                          exact absurd H (by simp)
                                      · rw [if_neg c36] at H
                                        have c36b0 : (a3 == 94) = false := beq_eq_false_iff_ne.mpr c36
                                        have c36b1 : (a3 != 94) = true := bne_iff_ne.mpr c36
                                        by_cases c38 : a3 = 36
                                        · rw [if_pos c38] at H
                                          have c38b0 : (a3 == 36) = true := beq_iff_eq.mpr c38
                                          have c38b1 : (a3 != 36) = false := bne_eq_false_iff_eq.mpr c38
                                          clear c38
                                          by_cases c39 : x12_2.size + ((⟨#[92]⟩ : ByteArray) ++ (a1.extract (x13_2 : Int).toNat ((wrap64 (x13_2 + 1)) : Int).toNat)).size ≤ 9223372036854775807
                                          · rw [if_pos c39] at H
                                            have c39b0 := eq_true c39
                                            have c39b1 : decide (x12_2.size + ((⟨#[92]⟩ : ByteArray) ++ (a1.extract (x13_2 : Int).toNat ((wrap64 (x13_2 + 1)) : Int).toNat)).size ≤ 9223372036854775807) = true := decide_eq_true c39
                                            try have c39b2 : (9223372036854775807 < x12_2.size + ((⟨#[92]⟩ : ByteArray) ++ (a1.extract (x13_2 : Int).toNat ((wrap64 (x13_2 + 1)) : Int).toNat)).size) = False := eq_false (Nat.not_lt.2 c39)
                                            (try (have c39b3 := c39; simp only [ByteArray.size_append', ByteArray.size_mk', ByteArray.size_extract, List.size_toArray, List.length_cons, List.length_nil, Nat.reduceAdd] at c39b3; have c39b4 := eq_true c39b3; have c39b5 := eq_false (Nat.not_lt.2 c39b3)))
                                            have H' := Aside0.mk H
                                            clear H
                                            go_wp2
                                            go_roundg kj21
                                            case measure => have := HJ4.out; have := HK2.out; have := HJ21.out; omega
                                            case rel => exact ⟨(x10_2), (x11_2 ++ ((⟨#[92]⟩ : ByteArray) ++ (a1.extract (x13_2 : Int).toNat ((wrap64 (x13_2 + 1)) : Int).toNat))), (x12_2 ++ ((⟨#[92]⟩ : ByteArray) ++ (a1.extract (x13_2 : Int).toNat ((wrap64 (x13_2 + 1)) : Int).toNat))), (wrap64 (x13_2 + 1)), (by first | rfl | (simp; done) | (simp [*]; done)), (by first | rfl | (simp; done) | (simp [*]; done)), (by first | rfl | (simp; done) | (simp [*]; done)), (by first | rfl | (simp; done) | (simp [*]; done)), H', ⟨by have := HJ4.out; have := HK2.out; have := HJ21.out; omega⟩, ⟨by repeat (first | (with_reducible first | exact HB.out | apply below_alloc | apply pw_below_drewN | apply below_drew1) | exact HB.out)⟩⟩
                                          · rw [if_neg c39] at H
                                            exact absurd H (by simp)
                                        · rw [if_neg c38] at H
                                          have c38b0 : (a3 == 36) = false := beq_eq_false_iff_ne.mpr c38
                                          have c38b1 : (a3 != 36) = true := bne_iff_ne.mpr c38
                                          by_cases c40 : a3 = 38
                                          · rw [if_pos c40] at H
                                            have c40b0 : (a3 == 38) = true := beq_iff_eq.mpr c40
                                            have c40b1 : (a3 != 38) = false := bne_eq_false_iff_eq.mpr c40
                                            clear c40
                                            by_cases c41 : x12_2.size + ((⟨#[92]⟩ : ByteArray) ++ (a1.extract (x13_2 : Int).toNat ((wrap64 (x13_2 + 1)) : Int).toNat)).size ≤ 9223372036854775807
                                            · rw [if_pos c41] at H
                                              have c41b0 := eq_true c41
                                              have c41b1 : decide (x12_2.size + ((⟨#[92]⟩ : ByteArray) ++ (a1.extract (x13_2 : Int).toNat ((wrap64 (x13_2 + 1)) : Int).toNat)).size ≤ 9223372036854775807) = true := decide_eq_true c41
                                              try have c41b2 : (9223372036854775807 < x12_2.size + ((⟨#[92]⟩ : ByteArray) ++ (a1.extract (x13_2 : Int).toNat ((wrap64 (x13_2 + 1)) : Int).toNat)).size) = False := eq_false (Nat.not_lt.2 c41)
                                              (try (have c41b3 := c41; simp only [ByteArray.size_append', ByteArray.size_mk', ByteArray.size_extract, List.size_toArray, List.length_cons, List.length_nil, Nat.reduceAdd] at c41b3; have c41b4 := eq_true c41b3; have c41b5 := eq_false (Nat.not_lt.2 c41b3)))
                                              have H' := Aside0.mk H
                                              clear H
                                              go_wp2
                                              go_roundg kj21
                                              case measure => have := HJ4.out; have := HK2.out; have := HJ21.out; omega
                                              case rel => exact ⟨(x10_2), (x11_2 ++ ((⟨#[92]⟩ : ByteArray) ++ (a1.extract (x13_2 : Int).toNat ((wrap64 (x13_2 + 1)) : Int).toNat))), (x12_2 ++ ((⟨#[92]⟩ : ByteArray) ++ (a1.extract (x13_2 : Int).toNat ((wrap64 (x13_2 + 1)) : Int).toNat))), (wrap64 (x13_2 + 1)), (by first | rfl | (simp; done) | (simp [*]; done)), (by first | rfl | (simp; done) | (simp [*]; done)), (by first | rfl | (simp; done) | (simp [*]; done)), (by first | rfl | (simp; done) | (simp [*]; done)), H', ⟨by have := HJ4.out; have := HK2.out; have := HJ21.out; omega⟩, ⟨by repeat (first | (with_reducible first | exact HB.out | apply below_alloc | apply pw_below_drewN | apply below_drew1) | exact HB.out)⟩⟩
                                            · rw [if_neg c41] at H
                                              exact absurd H (by simp)
                                          · rw [if_neg c40] at H
                                            have c40b0 : (a3 == 38) = false := beq_eq_false_iff_ne.mpr c40
                                            have c40b1 : (a3 != 38) = true := bne_iff_ne.mpr c40
                                            by_cases c42 : x12_2.size + (a1.extract (x13_2 : Int).toNat ((wrap64 (x13_2 + 1)) : Int).toNat).size ≤ 9223372036854775807
                                            · rw [if_pos c42] at H
                                              have c42b0 := eq_true c42
                                              have c42b1 : decide (x12_2.size + (a1.extract (x13_2 : Int).toNat ((wrap64 (x13_2 + 1)) : Int).toNat).size ≤ 9223372036854775807) = true := decide_eq_true c42
                                              try have c42b2 : (9223372036854775807 < x12_2.size + (a1.extract (x13_2 : Int).toNat ((wrap64 (x13_2 + 1)) : Int).toNat).size) = False := eq_false (Nat.not_lt.2 c42)
                                              (try (have c42b3 := c42; simp only [ByteArray.size_append', ByteArray.size_mk', ByteArray.size_extract, List.size_toArray, List.length_cons, List.length_nil, Nat.reduceAdd] at c42b3; have c42b4 := eq_true c42b3; have c42b5 := eq_false (Nat.not_lt.2 c42b3)))
                                              have H' := Aside0.mk H
                                              clear H
                                              go_wp2
                                              go_roundg kj21
                                              case measure => have := HJ4.out; have := HK2.out; have := HJ21.out; omega
                                              case rel => exact ⟨(x10_2), (x11_2 ++ ((⟨#[92]⟩ : ByteArray) ++ (a1.extract (x13_2 : Int).toNat ((wrap64 (x13_2 + 1)) : Int).toNat))), (x12_2 ++ (a1.extract (x13_2 : Int).toNat ((wrap64 (x13_2 + 1)) : Int).toNat)), (wrap64 (x13_2 + 1)), (by first | rfl | (simp; done) | (simp [*]; done)), (by first | rfl | (simp; done) | (simp [*]; done)), (by first | rfl | (simp; done) | (simp [*]; done)), (by first | rfl | (simp; done) | (simp [*]; done)), H', ⟨by have := HJ4.out; have := HK2.out; have := HJ21.out; omega⟩, ⟨by repeat (first | (with_reducible first | exact HB.out | apply below_alloc | apply pw_below_drewN | apply below_drew1) | exact HB.out)⟩⟩
                                            · rw [if_neg c42] at H
                                              exact absurd H (by simp)
                              · rw [if_neg c29] at H
                                have c29b0 : ((a1.extract (x13_2 : Int).toNat ((wrap64 (x13_2 + 1)) : Int).toNat).toList == (strOfNums y330).toList) = false := beq_eq_false_iff_ne.mpr c29
                                have c29b1 : ((a1.extract (x13_2 : Int).toNat ((wrap64 (x13_2 + 1)) : Int).toNat).toList != (strOfNums y330).toList) = true := bne_iff_ne.mpr c29
                                by_cases c43 : x10_2.size + (a1.extract (x13_2 : Int).toNat ((wrap64 (x13_2 + 1)) : Int).toNat).size ≤ 9223372036854775807
                                · rw [if_pos c43] at H
                                  have c43b0 := eq_true c43
                                  have c43b1 : decide (x10_2.size + (a1.extract (x13_2 : Int).toNat ((wrap64 (x13_2 + 1)) : Int).toNat).size ≤ 9223372036854775807) = true := decide_eq_true c43
                                  try have c43b2 : (9223372036854775807 < x10_2.size + (a1.extract (x13_2 : Int).toNat ((wrap64 (x13_2 + 1)) : Int).toNat).size) = False := eq_false (Nat.not_lt.2 c43)
                                  (try (have c43b3 := c43; simp only [ByteArray.size_append', ByteArray.size_mk', ByteArray.size_extract, List.size_toArray, List.length_cons, List.length_nil, Nat.reduceAdd] at c43b3; have c43b4 := eq_true c43b3; have c43b5 := eq_false (Nat.not_lt.2 c43b3)))
                                  by_cases c44 : x12_2.size + ((⟨#[92]⟩ : ByteArray) ++ (a1.extract (x13_2 : Int).toNat ((wrap64 (x13_2 + 1)) : Int).toNat)).size ≤ 9223372036854775807
                                  · rw [if_pos c44] at H
                                    have c44b0 := eq_true c44
                                    have c44b1 : decide (x12_2.size + ((⟨#[92]⟩ : ByteArray) ++ (a1.extract (x13_2 : Int).toNat ((wrap64 (x13_2 + 1)) : Int).toNat)).size ≤ 9223372036854775807) = true := decide_eq_true c44
                                    try have c44b2 : (9223372036854775807 < x12_2.size + ((⟨#[92]⟩ : ByteArray) ++ (a1.extract (x13_2 : Int).toNat ((wrap64 (x13_2 + 1)) : Int).toNat)).size) = False := eq_false (Nat.not_lt.2 c44)
                                    (try (have c44b3 := c44; simp only [ByteArray.size_append', ByteArray.size_mk', ByteArray.size_extract, List.size_toArray, List.length_cons, List.length_nil, Nat.reduceAdd] at c44b3; have c44b4 := eq_true c44b3; have c44b5 := eq_false (Nat.not_lt.2 c44b3)))
                                    have H' := Aside0.mk H
                                    clear H
                                    go_wp2
                                    go_roundg kj21
                                    case measure => have := HJ4.out; have := HK2.out; have := HJ21.out; omega
                                    case rel => exact ⟨(x10_2 ++ (a1.extract (x13_2 : Int).toNat ((wrap64 (x13_2 + 1)) : Int).toNat)), (x11_2 ++ ((⟨#[92]⟩ : ByteArray) ++ (a1.extract (x13_2 : Int).toNat ((wrap64 (x13_2 + 1)) : Int).toNat))), (x12_2 ++ ((⟨#[92]⟩ : ByteArray) ++ (a1.extract (x13_2 : Int).toNat ((wrap64 (x13_2 + 1)) : Int).toNat))), (wrap64 (x13_2 + 1)), (by first | rfl | (simp; done) | (simp [*]; done)), (by first | rfl | (simp; done) | (simp [*]; done)), (by first | rfl | (simp; done) | (simp [*]; done)), (by first | rfl | (simp; done) | (simp [*]; done)), H', ⟨by have := HJ4.out; have := HK2.out; have := HJ21.out; omega⟩, ⟨by repeat (first | (with_reducible first | exact HB.out | apply below_alloc | apply pw_below_drewN | apply below_drew1) | exact HB.out)⟩⟩
                                  · rw [if_neg c44] at H
                                    exact absurd H (by simp)
                                · rw [if_neg c43] at H
                                  exact absurd H (by simp)
                            · rw [if_neg c28] at H
                              exact absurd H (by simp)
                          · rw [if_neg c27] at H
                            exact absurd H (by simp)
                  · rw [if_neg c21] at H
                    exact absurd H (by simp)
                · rw [if_neg c20] at H
                  exact absurd H (by simp)
              · rw [if_neg c19] at H
                exact absurd H (by simp)
            · rw [if_neg c18] at H
              have c18b0 : decide (x13_2 < (a1.size : Int)) = false := decide_eq_false c18
              clear c18
              by_cases c45 : a0.size + x10_2.size ≤ 9223372036854775807
              · rw [if_pos c45] at H
                have c45b0 := eq_true c45
                have c45b1 : decide (a0.size + x10_2.size ≤ 9223372036854775807) = true := decide_eq_true c45
                try have c45b2 : (9223372036854775807 < a0.size + x10_2.size) = False := eq_false (Nat.not_lt.2 c45)
                by_cases c46 : (a0 ++ x10_2).size + (strOfNums y330).size ≤ 9223372036854775807
                · rw [if_pos c46] at H
                  have c46b0 := eq_true c46
                  have c46b1 : decide ((a0 ++ x10_2).size + (strOfNums y330).size ≤ 9223372036854775807) = true := decide_eq_true c46
                  try have c46b2 : (9223372036854775807 < (a0 ++ x10_2).size + (strOfNums y330).size) = False := eq_false (Nat.not_lt.2 c46)
                  by_cases c47 : ((a0 ++ x10_2) ++ (strOfNums y330)).size + a2.size ≤ 9223372036854775807
                  · rw [if_pos c47] at H
                    have c47b0 := eq_true c47
                    have c47b1 : decide (((a0 ++ x10_2) ++ (strOfNums y330)).size + a2.size ≤ 9223372036854775807) = true := decide_eq_true c47
                    try have c47b2 : (9223372036854775807 < ((a0 ++ x10_2) ++ (strOfNums y330)).size + a2.size) = False := eq_false (Nat.not_lt.2 c47)
                    replace H := Option.bind_eq_some_iff.mp H
                    obtain ⟨⟨t333, t334, t335⟩, A480, H⟩ := H
                    replace H : (if a0.size + x11_2.size ≤ 9223372036854775807 then (if (a0 ++ x11_2).size + (strOfNums y330).size ≤ 9223372036854775807 then (if ((a0 ++ x11_2) ++ (strOfNums y330)).size + a2.size ≤ 9223372036854775807 then ((scan_Until.f k2 (((a0 ++ x11_2) ++ (strOfNums y330)) ++ a2) (a0.size : Int) a3 true).bind fun bt336 => (if t335 = 0 then (if bt336.2.2 = 0 then (if t333.toList = x10_2.toList then (if t334 = (wrap64 ((wrap64 ((a0.size : Int) + (x10_2.size : Int))) + 1)) then (if bt336.1.toList = x12_2.toList then (some (bt336.2.1 == (wrap64 ((wrap64 ((a0.size : Int) + (x11_2.size : Int))) + 1)))) else (some false)) else (some false)) else (some false)) else (some false)) else (some false))) else (none)) else (none)) else (none)) = some r := H
                    have A48 := Aside0.mk A480
                    clear A480
                    by_cases c49 : a0.size + x11_2.size ≤ 9223372036854775807
                    · rw [if_pos c49] at H
                      have c49b0 := eq_true c49
                      have c49b1 : decide (a0.size + x11_2.size ≤ 9223372036854775807) = true := decide_eq_true c49
                      try have c49b2 : (9223372036854775807 < a0.size + x11_2.size) = False := eq_false (Nat.not_lt.2 c49)
                      by_cases c50 : (a0 ++ x11_2).size + (strOfNums y330).size ≤ 9223372036854775807
                      · rw [if_pos c50] at H
                        have c50b0 := eq_true c50
                        have c50b1 : decide ((a0 ++ x11_2).size + (strOfNums y330).size ≤ 9223372036854775807) = true := decide_eq_true c50
                        try have c50b2 : (9223372036854775807 < (a0 ++ x11_2).size + (strOfNums y330).size) = False := eq_false (Nat.not_lt.2 c50)
                        by_cases c51 : ((a0 ++ x11_2) ++ (strOfNums y330)).size + a2.size ≤ 9223372036854775807
                        · rw [if_pos c51] at H
                          have c51b0 := eq_true c51
                          have c51b1 : decide (((a0 ++ x11_2) ++ (strOfNums y330)).size + a2.size ≤ 9223372036854775807) = true := decide_eq_true c51
                          try have c51b2 : (9223372036854775807 < ((a0 ++ x11_2) ++ (strOfNums y330)).size + a2.size) = False := eq_false (Nat.not_lt.2 c51)
                          replace H := Option.bind_eq_some_iff.mp H
                          obtain ⟨⟨t336, t337, t338⟩, A520, H⟩ := H
                          replace H : (if t335 = 0 then (if t338 = 0 then (if t333.toList = x10_2.toList then (if t334 = (wrap64 ((wrap64 ((a0.size : Int) + (x10_2.size : Int))) + 1)) then (if t336.toList = x12_2.toList then (some (t337 == (wrap64 ((wrap64 ((a0.size : Int) + (x11_2.size : Int))) + 1)))) else (some false)) else (some false)) else (some false)) else (some false)) else (some false)) = some r := H
                          have A52 := Aside0.mk A520
                          clear A520
                          by_cases c53 : t335 = 0
                          · rw [if_pos c53] at H
                            have c53b0 : (t335 == 0) = true := beq_iff_eq.mpr c53
                            have c53b1 : (t335 != 0) = false := bne_eq_false_iff_eq.mpr c53
                            clear c53
                            by_cases c54 : t338 = 0
                            · rw [if_pos c54] at H
                              have c54b0 : (t338 == 0) = true := beq_iff_eq.mpr c54
                              have c54b1 : (t338 != 0) = false := bne_eq_false_iff_eq.mpr c54
                              clear c54
                              by_cases c55 : t333.toList = x10_2.toList
                              · rw [if_pos c55] at H
                                have c55b0 : (t333.toList == x10_2.toList) = true := beq_iff_eq.mpr c55
                                have c55b1 : (t333.toList != x10_2.toList) = false := bne_eq_false_iff_eq.mpr c55
                                clear c55
                                by_cases c56 : t334 = (wrap64 ((wrap64 ((a0.size : Int) + (x10_2.size : Int))) + 1))
                                · rw [if_pos c56] at H
                                  have c56b0 : (t334 == (wrap64 ((wrap64 ((a0.size : Int) + (x10_2.size : Int))) + 1))) = true := beq_iff_eq.mpr c56
                                  (try (have c56b0w := c56b0; simp only [wrap_wrap] at c56b0w))
                                  have c56b1 : (t334 != (wrap64 ((wrap64 ((a0.size : Int) + (x10_2.size : Int))) + 1))) = false := bne_eq_false_iff_eq.mpr c56
                                  (try (have c56b1w := c56b1; simp only [wrap_wrap] at c56b1w))
                                  clear c56
                                  by_cases c57 : t336.toList = x12_2.toList
                                  · rw [if_pos c57] at H
                                    have c57b0 : (t336.toList == x12_2.toList) = true := beq_iff_eq.mpr c57
                                    have c57b1 : (t336.toList != x12_2.toList) = false := bne_eq_false_iff_eq.mpr c57
                                    clear c57
                                    obtain rfl := Option.some.inj H
                                    go_wp2_with (first | ((with_reducible refine gate_callee (f := 28) rfl ?_); refine goesL_ (some 111) rfl rfl Try.func28 (by kernel_rfl) rfl #[.string (((a0 ++ x10_2) ++ (strOfNums y330)) ++ a2), .int .i64 (a0.size : Int), .int .u8 a3, .bool false] rfl (by (try simp only [List.map_toArray, List.map_cons, List.map_nil]); first | done | rfl | (simp only [List.length_drop, List.length_take]; rfl)) ?_; (with_reducible refine (scan_Until.calls k2 (((a0 ++ x10_2) ++ (strOfNums y330)) ++ a2) (a0.size : Int) a3 false t333 t334 t335 _ A48.out).mono ?_); rintro e w58 ⟨rfl, hb⟩; refine ⟨_, rfl, ?_⟩; have n0_ := Aside0.mk (below_step (by repeat (first | (with_reducible first | exact HB.out | apply below_alloc | apply pw_below_drewN | apply below_drew1) | exact HB.out)) hb); clear HB; have HB := n0_; clear n0_; (try clear hb); (try clear hb2); (try clear hk); (try clear hi)) | ((with_reducible refine gate_callee (f := 28) rfl ?_); refine goesL_ (some 126) rfl rfl Try.func28 (by kernel_rfl) rfl #[.string (((a0 ++ x11_2) ++ (strOfNums y330)) ++ a2), .int .i64 (a0.size : Int), .int .u8 a3, .bool true] rfl (by (try simp only [List.map_toArray, List.map_cons, List.map_nil]); first | done | rfl | (simp only [List.length_drop, List.length_take]; rfl)) ?_; (with_reducible refine (scan_Until.calls k2 (((a0 ++ x11_2) ++ (strOfNums y330)) ++ a2) (a0.size : Int) a3 true t336 t337 t338 _ A52.out).mono ?_); rintro e w59 ⟨rfl, hb⟩; refine ⟨_, rfl, ?_⟩; have n0_ := Aside0.mk (below_step (by repeat (first | (with_reducible first | exact HB.out | apply below_alloc | apply pw_below_drewN | apply below_drew1) | exact HB.out)) hb); clear HB; have HB := n0_; clear n0_; (try clear hb); (try clear hb2); (try clear hk); (try clear hi)))
                                    go_ret
                                    exact ⟨by first | rfl | (simp only [wrap_wrap]; done) | (simp only [wrap_wrap]; rfl) | (simp [errW_none, errW_some] <;> rfl) | (simp [*, errW_none, errW_some] <;> rfl), by repeat (first | (with_reducible first | exact HB.out | apply below_alloc | apply pw_below_drewN | apply below_drew1) | exact HB.out)⟩
                                  · rw [if_neg c57] at H
                                    have c57b0 : (t336.toList == x12_2.toList) = false := beq_eq_false_iff_ne.mpr c57
                                    have c57b1 : (t336.toList != x12_2.toList) = true := bne_iff_ne.mpr c57
                                    obtain rfl := Option.some.inj H
                                    go_wp2_with (first | ((with_reducible refine gate_callee (f := 28) rfl ?_); refine goesL_ (some 111) rfl rfl Try.func28 (by kernel_rfl) rfl #[.string (((a0 ++ x10_2) ++ (strOfNums y330)) ++ a2), .int .i64 (a0.size : Int), .int .u8 a3, .bool false] rfl (by (try simp only [List.map_toArray, List.map_cons, List.map_nil]); first | done | rfl | (simp only [List.length_drop, List.length_take]; rfl)) ?_; (with_reducible refine (scan_Until.calls k2 (((a0 ++ x10_2) ++ (strOfNums y330)) ++ a2) (a0.size : Int) a3 false t333 t334 t335 _ A48.out).mono ?_); rintro e w60 ⟨rfl, hb⟩; refine ⟨_, rfl, ?_⟩; have n0_ := Aside0.mk (below_step (by repeat (first | (with_reducible first | exact HB.out | apply below_alloc | apply pw_below_drewN | apply below_drew1) | exact HB.out)) hb); clear HB; have HB := n0_; clear n0_; (try clear hb); (try clear hb2); (try clear hk); (try clear hi)) | ((with_reducible refine gate_callee (f := 28) rfl ?_); refine goesL_ (some 126) rfl rfl Try.func28 (by kernel_rfl) rfl #[.string (((a0 ++ x11_2) ++ (strOfNums y330)) ++ a2), .int .i64 (a0.size : Int), .int .u8 a3, .bool true] rfl (by (try simp only [List.map_toArray, List.map_cons, List.map_nil]); first | done | rfl | (simp only [List.length_drop, List.length_take]; rfl)) ?_; (with_reducible refine (scan_Until.calls k2 (((a0 ++ x11_2) ++ (strOfNums y330)) ++ a2) (a0.size : Int) a3 true t336 t337 t338 _ A52.out).mono ?_); rintro e w61 ⟨rfl, hb⟩; refine ⟨_, rfl, ?_⟩; have n0_ := Aside0.mk (below_step (by repeat (first | (with_reducible first | exact HB.out | apply below_alloc | apply pw_below_drewN | apply below_drew1) | exact HB.out)) hb); clear HB; have HB := n0_; clear n0_; (try clear hb); (try clear hb2); (try clear hk); (try clear hi)))
                                    go_ret
                                    exact ⟨by first | rfl | (simp only [wrap_wrap]; done) | (simp only [wrap_wrap]; rfl) | (simp [errW_none, errW_some] <;> rfl) | (simp [*, errW_none, errW_some] <;> rfl), by repeat (first | (with_reducible first | exact HB.out | apply below_alloc | apply pw_below_drewN | apply below_drew1) | exact HB.out)⟩
                                · rw [if_neg c56] at H
                                  have c56b0 : (t334 == (wrap64 ((wrap64 ((a0.size : Int) + (x10_2.size : Int))) + 1))) = false := beq_eq_false_iff_ne.mpr c56
                                  (try (have c56b0w := c56b0; simp only [wrap_wrap] at c56b0w))
                                  have c56b1 : (t334 != (wrap64 ((wrap64 ((a0.size : Int) + (x10_2.size : Int))) + 1))) = true := bne_iff_ne.mpr c56
                                  (try (have c56b1w := c56b1; simp only [wrap_wrap] at c56b1w))
                                  obtain rfl := Option.some.inj H
                                  go_wp2_with (first | ((with_reducible refine gate_callee (f := 28) rfl ?_); refine goesL_ (some 111) rfl rfl Try.func28 (by kernel_rfl) rfl #[.string (((a0 ++ x10_2) ++ (strOfNums y330)) ++ a2), .int .i64 (a0.size : Int), .int .u8 a3, .bool false] rfl (by (try simp only [List.map_toArray, List.map_cons, List.map_nil]); first | done | rfl | (simp only [List.length_drop, List.length_take]; rfl)) ?_; (with_reducible refine (scan_Until.calls k2 (((a0 ++ x10_2) ++ (strOfNums y330)) ++ a2) (a0.size : Int) a3 false t333 t334 t335 _ A48.out).mono ?_); rintro e w62 ⟨rfl, hb⟩; refine ⟨_, rfl, ?_⟩; have n0_ := Aside0.mk (below_step (by repeat (first | (with_reducible first | exact HB.out | apply below_alloc | apply pw_below_drewN | apply below_drew1) | exact HB.out)) hb); clear HB; have HB := n0_; clear n0_; (try clear hb); (try clear hb2); (try clear hk); (try clear hi)) | ((with_reducible refine gate_callee (f := 28) rfl ?_); refine goesL_ (some 126) rfl rfl Try.func28 (by kernel_rfl) rfl #[.string (((a0 ++ x11_2) ++ (strOfNums y330)) ++ a2), .int .i64 (a0.size : Int), .int .u8 a3, .bool true] rfl (by (try simp only [List.map_toArray, List.map_cons, List.map_nil]); first | done | rfl | (simp only [List.length_drop, List.length_take]; rfl)) ?_; (with_reducible refine (scan_Until.calls k2 (((a0 ++ x11_2) ++ (strOfNums y330)) ++ a2) (a0.size : Int) a3 true t336 t337 t338 _ A52.out).mono ?_); rintro e w63 ⟨rfl, hb⟩; refine ⟨_, rfl, ?_⟩; have n0_ := Aside0.mk (below_step (by repeat (first | (with_reducible first | exact HB.out | apply below_alloc | apply pw_below_drewN | apply below_drew1) | exact HB.out)) hb); clear HB; have HB := n0_; clear n0_; (try clear hb); (try clear hb2); (try clear hk); (try clear hi)))
                                  go_ret
                                  exact ⟨by first | rfl | (simp only [wrap_wrap]; done) | (simp only [wrap_wrap]; rfl) | (simp [errW_none, errW_some] <;> rfl) | (simp [*, errW_none, errW_some] <;> rfl), by repeat (first | (with_reducible first | exact HB.out | apply below_alloc | apply pw_below_drewN | apply below_drew1) | exact HB.out)⟩
                              · rw [if_neg c55] at H
                                have c55b0 : (t333.toList == x10_2.toList) = false := beq_eq_false_iff_ne.mpr c55
                                have c55b1 : (t333.toList != x10_2.toList) = true := bne_iff_ne.mpr c55
                                obtain rfl := Option.some.inj H
                                go_wp2_with (first | ((with_reducible refine gate_callee (f := 28) rfl ?_); refine goesL_ (some 111) rfl rfl Try.func28 (by kernel_rfl) rfl #[.string (((a0 ++ x10_2) ++ (strOfNums y330)) ++ a2), .int .i64 (a0.size : Int), .int .u8 a3, .bool false] rfl (by (try simp only [List.map_toArray, List.map_cons, List.map_nil]); first | done | rfl | (simp only [List.length_drop, List.length_take]; rfl)) ?_; (with_reducible refine (scan_Until.calls k2 (((a0 ++ x10_2) ++ (strOfNums y330)) ++ a2) (a0.size : Int) a3 false t333 t334 t335 _ A48.out).mono ?_); rintro e w64 ⟨rfl, hb⟩; refine ⟨_, rfl, ?_⟩; have n0_ := Aside0.mk (below_step (by repeat (first | (with_reducible first | exact HB.out | apply below_alloc | apply pw_below_drewN | apply below_drew1) | exact HB.out)) hb); clear HB; have HB := n0_; clear n0_; (try clear hb); (try clear hb2); (try clear hk); (try clear hi)) | ((with_reducible refine gate_callee (f := 28) rfl ?_); refine goesL_ (some 126) rfl rfl Try.func28 (by kernel_rfl) rfl #[.string (((a0 ++ x11_2) ++ (strOfNums y330)) ++ a2), .int .i64 (a0.size : Int), .int .u8 a3, .bool true] rfl (by (try simp only [List.map_toArray, List.map_cons, List.map_nil]); first | done | rfl | (simp only [List.length_drop, List.length_take]; rfl)) ?_; (with_reducible refine (scan_Until.calls k2 (((a0 ++ x11_2) ++ (strOfNums y330)) ++ a2) (a0.size : Int) a3 true t336 t337 t338 _ A52.out).mono ?_); rintro e w65 ⟨rfl, hb⟩; refine ⟨_, rfl, ?_⟩; have n0_ := Aside0.mk (below_step (by repeat (first | (with_reducible first | exact HB.out | apply below_alloc | apply pw_below_drewN | apply below_drew1) | exact HB.out)) hb); clear HB; have HB := n0_; clear n0_; (try clear hb); (try clear hb2); (try clear hk); (try clear hi)))
                                go_ret
                                exact ⟨by first | rfl | (simp only [wrap_wrap]; done) | (simp only [wrap_wrap]; rfl) | (simp [errW_none, errW_some] <;> rfl) | (simp [*, errW_none, errW_some] <;> rfl), by repeat (first | (with_reducible first | exact HB.out | apply below_alloc | apply pw_below_drewN | apply below_drew1) | exact HB.out)⟩
                            · rw [if_neg c54] at H
                              have c54b0 : (t338 == 0) = false := beq_eq_false_iff_ne.mpr c54
                              have c54b1 : (t338 != 0) = true := bne_iff_ne.mpr c54
                              obtain rfl := Option.some.inj H
                              go_wp2_with (first | ((with_reducible refine gate_callee (f := 28) rfl ?_); refine goesL_ (some 111) rfl rfl Try.func28 (by kernel_rfl) rfl #[.string (((a0 ++ x10_2) ++ (strOfNums y330)) ++ a2), .int .i64 (a0.size : Int), .int .u8 a3, .bool false] rfl (by (try simp only [List.map_toArray, List.map_cons, List.map_nil]); first | done | rfl | (simp only [List.length_drop, List.length_take]; rfl)) ?_; (with_reducible refine (scan_Until.calls k2 (((a0 ++ x10_2) ++ (strOfNums y330)) ++ a2) (a0.size : Int) a3 false t333 t334 t335 _ A48.out).mono ?_); rintro e w66 ⟨rfl, hb⟩; refine ⟨_, rfl, ?_⟩; have n0_ := Aside0.mk (below_step (by repeat (first | (with_reducible first | exact HB.out | apply below_alloc | apply pw_below_drewN | apply below_drew1) | exact HB.out)) hb); clear HB; have HB := n0_; clear n0_; (try clear hb); (try clear hb2); (try clear hk); (try clear hi)) | ((with_reducible refine gate_callee (f := 28) rfl ?_); refine goesL_ (some 126) rfl rfl Try.func28 (by kernel_rfl) rfl #[.string (((a0 ++ x11_2) ++ (strOfNums y330)) ++ a2), .int .i64 (a0.size : Int), .int .u8 a3, .bool true] rfl (by (try simp only [List.map_toArray, List.map_cons, List.map_nil]); first | done | rfl | (simp only [List.length_drop, List.length_take]; rfl)) ?_; (with_reducible refine (scan_Until.calls k2 (((a0 ++ x11_2) ++ (strOfNums y330)) ++ a2) (a0.size : Int) a3 true t336 t337 t338 _ A52.out).mono ?_); rintro e w67 ⟨rfl, hb⟩; refine ⟨_, rfl, ?_⟩; have n0_ := Aside0.mk (below_step (by repeat (first | (with_reducible first | exact HB.out | apply below_alloc | apply pw_below_drewN | apply below_drew1) | exact HB.out)) hb); clear HB; have HB := n0_; clear n0_; (try clear hb); (try clear hb2); (try clear hk); (try clear hi)))
                              go_ret
                              exact ⟨by first | rfl | (simp only [wrap_wrap]; done) | (simp only [wrap_wrap]; rfl) | (simp [errW_none, errW_some] <;> rfl) | (simp [*, errW_none, errW_some] <;> rfl), by repeat (first | (with_reducible first | exact HB.out | apply below_alloc | apply pw_below_drewN | apply below_drew1) | exact HB.out)⟩
                          · rw [if_neg c53] at H
                            have c53b0 : (t335 == 0) = false := beq_eq_false_iff_ne.mpr c53
                            have c53b1 : (t335 != 0) = true := bne_iff_ne.mpr c53
                            obtain rfl := Option.some.inj H
                            go_wp2_with (first | ((with_reducible refine gate_callee (f := 28) rfl ?_); refine goesL_ (some 111) rfl rfl Try.func28 (by kernel_rfl) rfl #[.string (((a0 ++ x10_2) ++ (strOfNums y330)) ++ a2), .int .i64 (a0.size : Int), .int .u8 a3, .bool false] rfl (by (try simp only [List.map_toArray, List.map_cons, List.map_nil]); first | done | rfl | (simp only [List.length_drop, List.length_take]; rfl)) ?_; (with_reducible refine (scan_Until.calls k2 (((a0 ++ x10_2) ++ (strOfNums y330)) ++ a2) (a0.size : Int) a3 false t333 t334 t335 _ A48.out).mono ?_); rintro e w68 ⟨rfl, hb⟩; refine ⟨_, rfl, ?_⟩; have n0_ := Aside0.mk (below_step (by repeat (first | (with_reducible first | exact HB.out | apply below_alloc | apply pw_below_drewN | apply below_drew1) | exact HB.out)) hb); clear HB; have HB := n0_; clear n0_; (try clear hb); (try clear hb2); (try clear hk); (try clear hi)) | ((with_reducible refine gate_callee (f := 28) rfl ?_); refine goesL_ (some 126) rfl rfl Try.func28 (by kernel_rfl) rfl #[.string (((a0 ++ x11_2) ++ (strOfNums y330)) ++ a2), .int .i64 (a0.size : Int), .int .u8 a3, .bool true] rfl (by (try simp only [List.map_toArray, List.map_cons, List.map_nil]); first | done | rfl | (simp only [List.length_drop, List.length_take]; rfl)) ?_; (with_reducible refine (scan_Until.calls k2 (((a0 ++ x11_2) ++ (strOfNums y330)) ++ a2) (a0.size : Int) a3 true t336 t337 t338 _ A52.out).mono ?_); rintro e w69 ⟨rfl, hb⟩; refine ⟨_, rfl, ?_⟩; have n0_ := Aside0.mk (below_step (by repeat (first | (with_reducible first | exact HB.out | apply below_alloc | apply pw_below_drewN | apply below_drew1) | exact HB.out)) hb); clear HB; have HB := n0_; clear n0_; (try clear hb); (try clear hb2); (try clear hk); (try clear hi)))
                            go_ret
                            exact ⟨by first | rfl | (simp only [wrap_wrap]; done) | (simp only [wrap_wrap]; rfl) | (simp [errW_none, errW_some] <;> rfl) | (simp [*, errW_none, errW_some] <;> rfl), by repeat (first | (with_reducible first | exact HB.out | apply below_alloc | apply pw_below_drewN | apply below_drew1) | exact HB.out)⟩
                        · rw [if_neg c51] at H
                          exact absurd H (by simp)
                      · rw [if_neg c50] at H
                        exact absurd H (by simp)
                    · rw [if_neg c49] at H
                      exact absurd H (by simp)
                  · rw [if_neg c47] at H
                    exact absurd H (by simp)
                · rw [if_neg c46] at H
                  exact absurd H (by simp)
              · rw [if_neg c45] at H
                exact absurd H (by simp)

/-- THE ONE PURE STATEMENT of runnellaw17_ScanPieces: yours. -/
def runnellaw17_ScanPieces.Pure : Prop := ∀ (a0 : ByteArray) (a1 : ByteArray) (a2 : ByteArray) (a3 : Int), a0.size ≤ 140737488351232 → a1.size ≤ 140737488351232 → a2.size ≤ 140737488351232 → (Lit.int .u8 a3).wf = true → ∃ k, runnellaw17_ScanPieces.f k a0 a1 a2 a3 = some true
theorem runnellaw17_ScanPieces.walk (P : runnellaw17_ScanPieces.Pure) (a0 : ByteArray) (a1 : ByteArray) (a2 : ByteArray) (a3 : Int) (w : World) (w0 : a0.size ≤ 140737488351232) (w1 : a1.size ≤ 140737488351232) (w2 : a2.size ≤ 140737488351232) (w3 : (Lit.int .u8 a3).wf = true) :
    Calls Try.prog 12 #[.string a0, .string a1, .string a2, .int .u8 a3] w fun e w' => e = .returned (.bool true) ∧ Below w.heap.size w w' := by
  obtain ⟨k, h⟩ := P a0 a1 a2 a3 w0 w1 w2 w3
  refine (runnellaw17_ScanPieces.calls k a0 a1 a2 a3 true w h).mono ?_
  rintro e w' ⟨rfl, hd⟩
  exact ⟨rfl, hd⟩

end Go.Proofs.Ytdlbmajilmmapaa.F
