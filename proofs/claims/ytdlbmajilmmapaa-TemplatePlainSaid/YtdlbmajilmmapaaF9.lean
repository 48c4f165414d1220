-- Made by a program of this session (wip/tools/pr.py over the kit's printer). Not trusted: Lean checks it.
import Derived.Test.YtdlbmajilmmapaaFx
import Derived.Test.YtdlbmajilmmapaaF22
import Derived.Test.YtdlbmajilmmapaaF24
import Derived.Test.YtdlbmajilmmapaaF26
namespace Go.Proofs.Ytdlbmajilmmapaa.F
open Go.RowKit Go.Proofs.YtdlbmajilmmapaaW.PrintWords Go.Proofs.YtdlbmajilmmapaaW.PrintLast Go.Proofs.YtdlbmajilmmapaaW.PrintMore
attribute [local go_sem] max2_int min2_int max_two min_two max_three min_three max_four min_four
set_option linter.unusedVariables false
set_option linter.unusedSimpArgs false

/-! ### runnellaw13_TemplatePlain: function 9 -/
mutual
def runnellaw13_TemplatePlain.l0 : Nat → ByteArray → ByteArray → List (S55) → Int → Option (Bool)
  | 0, _, _, _, _ => none
  | k + 1, x0, x1, x2, x7 => if x7 < (x0.size : Int) then (if 0 ≤ x7 then (if (bt x0 x7) = 38 then (some true) else (if (bt x0 x7) = 92 then (some true) else (if (bt x0 x7) = 10 then (some true) else (runnellaw13_TemplatePlain.l0 k x0 x1 x2 (wrap64 (x7 + 1)))))) else (none)) else ((template_Parse.f x0).bind fun bt248 => ((template_Build.f bt248.1 x1 x2).bind fun bt254 => (if bt248.2.1 = 0 then (if bt254.2 = 0 then (if bt254.1.toList = x0.toList then (runnellaw13_TemplatePlain.j1 k x1 ((bt248.1.length : Int) != (mn (x0.size : Int) 1))) else (runnellaw13_TemplatePlain.j1 k x1 true)) else (runnellaw13_TemplatePlain.j1 k x1 true)) else (runnellaw13_TemplatePlain.j1 k x1 true))))
def runnellaw13_TemplatePlain.j1 : Nat → ByteArray → Bool → Option (Bool)
  | 0, _, _ => none
  | k + 1, x1, x73 => if x73 = true then (some false) else ((template_Parse.f (⟨#[60, 38, 62]⟩ : ByteArray)).bind fun bt256 => ((template_Build.f bt256.1 x1 (([(⟨0, mn (x1.size : Int) 300⟩ : S55)] : List (S55)))).bind fun bt264 => (if bt256.2.1 = 0 then (if bt264.2 = 0 then (if 0 ≤ (mn (x1.size : Int) 300) then (if (mn (x1.size : Int) 300) ≤ (x1.size : Int) then (if 1 + (x1.extract 0 ((mn (x1.size : Int) 300) : Int).toNat).size ≤ 9223372036854775807 then (if ((⟨#[60]⟩ : ByteArray) ++ (x1.extract 0 ((mn (x1.size : Int) 300) : Int).toNat)).size + 1 ≤ 9223372036854775807 then (some (bt264.1.toList == (((⟨#[60]⟩ : ByteArray) ++ (x1.extract 0 ((mn (x1.size : Int) 300) : Int).toNat)) ++ (⟨#[62]⟩ : ByteArray)).toList)) else (none)) else (none)) else (none)) else (none)) else (some false)) else (some false))))
end
def runnellaw13_TemplatePlain.f (k : Nat) (a0 : ByteArray) (a1 : ByteArray) (l2 : List (S55)) : Option (Bool) := (runnellaw13_awake.f k).bind fun t247 => (if t247 = true then (if 0 ≤ (mn (a0.size : Int) 500) then (if (mn (a0.size : Int) 500) ≤ (a0.size : Int) then (runnellaw13_TemplatePlain.l0 k (a0.extract 0 ((mn (a0.size : Int) 500) : Int).toNat) a1 l2 0) else (none)) else (none)) else (some false))
theorem runnellaw13_TemplatePlain.mono_l : ∀ k, (∀ y0 y1 y2 y3, LeO (runnellaw13_TemplatePlain.l0 k y0 y1 y2 y3) (runnellaw13_TemplatePlain.l0 (k + 1) y0 y1 y2 y3)) ∧ (∀ y0 y1, LeO (runnellaw13_TemplatePlain.j1 k y0 y1) (runnellaw13_TemplatePlain.j1 (k + 1) y0 y1))
  | 0 => ⟨fun _ _ _ _ r h => by simp [runnellaw13_TemplatePlain.l0] at h, fun _ _ r h => by simp [runnellaw13_TemplatePlain.j1] at h⟩
  | k + 1 => by
    obtain ⟨ih0, ih1⟩ := runnellaw13_TemplatePlain.mono_l k
    refine ⟨?_, ?_⟩
    · intro y0 y1 y2 y3
      unfold runnellaw13_TemplatePlain.l0
      repeat' first
      | (with_reducible exact ih0 _ _ _ _)
      | (with_reducible exact ih1 _ _)
      | (with_reducible exact runnellaw13_awake.mono _)
      | (with_reducible exact LeO.refl _)
      | (with_reducible exact LeO.none _)
      | (with_reducible refine LeO.ite ?_ ?_)
      | (with_reducible refine LeO.bind ?_ (fun _ => ?_))
      | exact ih0 _ _ _ _
      | exact ih1 _ _
      | exact runnellaw13_awake.mono _
      | exact LeO.none _
      | refine LeO.ite ?_ ?_
      | refine LeO.bind ?_ (fun _ => ?_)
    · intro y0 y1
      unfold runnellaw13_TemplatePlain.j1
      repeat' first
      | (with_reducible exact ih0 _ _ _ _)
      | (with_reducible exact ih1 _ _)
      | (with_reducible exact runnellaw13_awake.mono _)
      | (with_reducible exact LeO.refl _)
      | (with_reducible exact LeO.none _)
      | (with_reducible refine LeO.ite ?_ ?_)
      | (with_reducible refine LeO.bind ?_ (fun _ => ?_))
      | exact ih0 _ _ _ _
      | exact ih1 _ _
      | exact runnellaw13_awake.mono _
      | exact LeO.none _
      | refine LeO.ite ?_ ?_
      | refine LeO.bind ?_ (fun _ => ?_)
theorem runnellaw13_TemplatePlain.mono : ∀ a0 a1 a2 k, LeO (runnellaw13_TemplatePlain.f k a0 a1 a2) (runnellaw13_TemplatePlain.f (k + 1) a0 a1 a2) := by
  intro a0 a1 a2 k
  obtain ⟨ih0, ih1⟩ := runnellaw13_TemplatePlain.mono_l k
  unfold runnellaw13_TemplatePlain.f
  repeat' first
      | (with_reducible exact ih0 _ _ _ _)
      | (with_reducible exact ih1 _ _)
      | (with_reducible exact runnellaw13_awake.mono _)
      | (with_reducible exact LeO.refl _)
      | (with_reducible exact LeO.none _)
      | (with_reducible refine LeO.ite ?_ ?_)
      | (with_reducible refine LeO.bind ?_ (fun _ => ?_))
      | exact ih0 _ _ _ _
      | exact ih1 _ _
      | exact runnellaw13_awake.mono _
      | exact LeO.none _
      | refine LeO.ite ?_ ?_
      | refine LeO.bind ?_ (fun _ => ?_)
set_option maxHeartbeats 8000000 in
set_option maxRecDepth 100000 in
theorem runnellaw13_TemplatePlain.calls (k : Nat) (a0 : ByteArray) (a1 : ByteArray) (A2 : Option Addr) (c2 : Nat) (l2 : List (S55)) (r : Bool) (w : World) (hr2 : Kd.C k55 w A2 l2.length l2) (hc2 : l2.length ≤ c2) (h : runnellaw13_TemplatePlain.f k a0 a1 l2 = some r) :
    Calls Try.prog 9 #[.string a0, .string a1, .slice A2 l2.length c2] w fun e w' => e = .returned (.bool r) ∧ Below w.heap.size w w' := by
  have hu30 := Try.underlying30
  have hu55 := Try.underlying55
  have HR2 := Aside0.mk hr2
  have HC2 := Aside0.mk hc2
  clear hr2 hc2
  have HB := Aside0.mk (Below.refl w.heap.size w)
  have H : ((runnellaw13_awake.f k).bind fun t247 => (if t247 = true then (if 0 ≤ (mn (a0.size : Int) 500) then (if (mn (a0.size : Int) 500) ≤ (a0.size : Int) then (runnellaw13_TemplatePlain.l0 k (a0.extract 0 ((mn (a0.size : Int) 500) : Int).toNat) a1 l2 0) else (none)) else (none)) else (some false))) = some r := h
  clear h
  replace H := Option.bind_eq_some_iff.mp H
  obtain ⟨t247, A40, H⟩ := H
  replace H : (if t247 = true then (if 0 ≤ (mn (a0.size : Int) 500) then (if (mn (a0.size : Int) 500) ≤ (a0.size : Int) then (runnellaw13_TemplatePlain.l0 k (a0.extract 0 ((mn (a0.size : Int) 500) : Int).toNat) a1 l2 0) else (none)) else (none)) else (some false)) = some r := H
  have A4 := Aside0.mk A40
  clear A40
  by_cases c5 : t247 = true
  · subst c5
    have H1 : (if 0 ≤ (mn (a0.size : Int) 500) then (if (mn (a0.size : Int) 500) ≤ (a0.size : Int) then (runnellaw13_TemplatePlain.l0 k (a0.extract 0 ((mn (a0.size : Int) 500) : Int).toNat) a1 l2 0) else (none)) else (none)) = some r := by rw [if_pos rfl] at H; exact H
    clear H
    have H := H1
    clear H1
    obtain ⟨ji6, hji6⟩ : ∃ j_ : Int, (mn (a0.size : Int) 500) = j_ := ⟨_, rfl⟩
    replace H : (if 0 ≤ (ji6) then (if (ji6) ≤ (a0.size : Int) then (runnellaw13_TemplatePlain.l0 k (a0.extract 0 ((ji6) : Int).toNat) a1 l2 0) else (none)) else (none)) = some r := by first | (rw [hji6] at H; exact H) | (simp only [hji6] at H ⊢; exact H)
    (try rw [hji6] at A4)
    (try (have hji6h : ji6 ≤ 500 := by (rw [← hji6]; unfold mn; (repeat' split) <;> omega)))
    (try (have hji6g : ji6 ≤ 64 := by omega))
    (try (have hji6l : 0 ≤ ji6 := by (rw [← hji6]; unfold mn; (repeat' split) <;> omega)))
    (try (have hji6m : 0 ≤ ji6 := by omega))
    have hji6_ : (if 500 < (a0.size : Int) then 500 else (a0.size : Int)) = ji6 := hji6
    by_cases c7 : 0 ≤ (ji6)
    · rw [if_pos c7] at H
      have c7b0 := eq_true c7
      have c7b1 : decide (0 ≤ (ji6)) = true := decide_eq_true c7
      clear c7
      by_cases c8 : (ji6) ≤ (a0.size : Int)
      · rw [if_pos c8] at H
        have c8b0 := eq_true c8
        have c8b1 : decide ((ji6) ≤ (a0.size : Int)) = true := decide_eq_true c8
        clear c8
        have H' := Aside0.mk H
        clear H
        go_enter Try.func9, Try.ntmps9
        go_wp2_with (first | ((with_reducible refine gate_callee (f := 24) rfl ?_); refine goesL_ (some 13) rfl rfl Try.func24 (by kernel_rfl) rfl #[] rfl (by (try simp only [List.map_toArray, List.map_cons, List.map_nil]); first | done | rfl | (simp only [List.length_drop, List.length_take]; rfl)) ?_; (with_reducible refine (runnellaw13_awake.calls k  true _ A4.out).mono ?_); rintro e w9 ⟨rfl, hb⟩; refine ⟨_, rfl, ?_⟩; have n0_ := Aside0.mk (below_step (by repeat (first | (with_reducible first | exact HB.out | apply below_alloc | apply pw_below_drewN | apply below_drew1) | exact HB.out)) hb); clear HB; have HB := n0_; clear n0_; (try clear hb); (try clear hb2); (try clear hk); (try clear hi)))
        obtain ⟨tx110, htx110⟩ : ∃ t_ : ByteArray, (a0.extract 0 ((ji6) : Int).toNat) = t_ := ⟨_, rfl⟩
        rw [htx110]
        rw [htx110] at H'
        go_loopg [7] k (fun kq v7 w' => ∃ (x7_1 : Int), v7 = .int .i64 x7_1 ∧ Aside0 (runnellaw13_TemplatePlain.l0 kq tx110 a1 l2 x7_1 = some r) ∧ Aside0 (kq ≤ k) ∧ Aside0 (Below w.heap.size w w'))
        case atStart => exact ⟨(0), (by first | rfl | (simp; done) | (simp [*]; done)), H', ⟨Nat.le_refl _⟩, ⟨by repeat (first | (with_reducible first | exact HB.out | apply below_alloc | apply pw_below_drewN | apply below_drew1) | exact HB.out)⟩⟩
        case round =>
          clear H'
          try clear c2
          try clear p2
          try clear c5
          try clear c7
          try clear c7b0
          try clear c7b1
          try clear c8
          try clear c8b0
          try clear c8b1
          try clear c9
          obtain ⟨x7_1, rfl, HA, HK1, HB⟩ := hrel
          cases gk with
          | zero => exact absurd HA.out (by simp [runnellaw13_TemplatePlain.l0])
          | succ k1 =>
            have H := HA.out
            clear HA
            simp only [runnellaw13_TemplatePlain.l0] at H
            by_cases c10 : x7_1 < (tx110.size : Int)
            · rw [if_pos c10] at H
              have c10b0 : decide (x7_1 < (tx110.size : Int)) = true := decide_eq_true c10
              clear c10
              by_cases c11 : 0 ≤ x7_1
              · rw [if_pos c11] at H
                have c11b0 : decide (0 ≤ x7_1) = true := decide_eq_true c11
                clear c11
                by_cases c13 : (bt tx110 x7_1) = 38
                · rw [if_pos c13] at H
                  have c13b0 : ((bt tx110 x7_1) == 38) = true := beq_iff_eq.mpr c13
                  have c13b1 : ((bt tx110 x7_1) != 38) = false := bne_eq_false_iff_eq.mpr c13
                  clear c13
                  obtain rfl := Option.some.inj H
                  have p12 : 0 ≤ (x7_1 : Int) := of_decide_eq_true (by first | (with_reducible assumption) | assumption)
                  have q12 : x7_1 < (tx110.size : Int) := of_decide_eq_true (by first | (with_reducible assumption) | assumption)
                  have hx12 := bt_at tx110 x7_1
                  replace p12 := eq_true p12
                  replace q12 := eq_true q12
                  go_wp2
                  go_ret
                  exact ⟨by first | rfl | (simp only [wrap_wrap]; done) | (simp only [wrap_wrap]; rfl) | (simp [errW_none, errW_some] <;> rfl) | (simp only [← hji6]; first | rfl | (simp [errW_none, errW_some] <;> rfl)) | (simp [*, errW_none, errW_some] <;> rfl), by repeat (first | (with_reducible first | exact HB.out | apply below_alloc | apply pw_below_drewN | apply below_drew1) | exact HB.out)⟩
                · rw [if_neg c13] at H
                  have c13b0 : ((bt tx110 x7_1) == 38) = false := beq_eq_false_iff_ne.mpr c13
                  have c13b1 : ((bt tx110 x7_1) != 38) = true := bne_iff_ne.mpr c13
                  by_cases c15 : (bt tx110 x7_1) = 92
                  · rw [if_pos c15] at H
                    have c15b0 : ((bt tx110 x7_1) == 92) = true := beq_iff_eq.mpr c15
                    have c15b1 : ((bt tx110 x7_1) != 92) = false := bne_eq_false_iff_eq.mpr c15
                    clear c15
                    obtain rfl := Option.some.inj H
                    have p12 : 0 ≤ (x7_1 : Int) := of_decide_eq_true (by first | (with_reducible assumption) | assumption)
                    have q12 : x7_1 < (tx110.size : Int) := of_decide_eq_true (by first | (with_reducible assumption) | assumption)
                    have hx12 := bt_at tx110 x7_1
                    replace p12 := eq_true p12
                    replace q12 := eq_true q12
                    have p14 : 0 ≤ (x7_1 : Int) := of_decide_eq_true (by first | (with_reducible assumption) | assumption)
                    have q14 : x7_1 < (tx110.size : Int) := of_decide_eq_true (by first | (with_reducible assumption) | assumption)
                    have hx14 := bt_at tx110 x7_1
                    replace p14 := eq_true p14
                    replace q14 := eq_true q14
                    go_wp2
                    go_ret
                    exact ⟨by first | rfl | (simp only [wrap_wrap]; done) | (simp only [wrap_wrap]; rfl) | (simp [errW_none, errW_some] <;> rfl) | (simp only [← hji6]; first | rfl | (simp [errW_none, errW_some] <;> rfl)) | (simp [*, errW_none, errW_some] <;> rfl), by repeat (first | (with_reducible first | exact HB.out | apply below_alloc | apply pw_below_drewN | apply below_drew1) | exact HB.out)⟩
                  · rw [if_neg c15] at H
                    have c15b0 : ((bt tx110 x7_1) == 92) = false := beq_eq_false_iff_ne.mpr c15
                    have c15b1 : ((bt tx110 x7_1) != 92) = true := bne_iff_ne.mpr c15
                    by_cases c17 : (bt tx110 x7_1) = 10
                    · rw [if_pos c17] at H
                      have c17b0 : ((bt tx110 x7_1) == 10) = true := beq_iff_eq.mpr c17
                      have c17b1 : ((bt tx110 x7_1) != 10) = false := bne_eq_false_iff_eq.mpr c17
                      clear c17
                      obtain rfl := Option.some.inj H
                      have p12 : 0 ≤ (x7_1 : Int) := of_decide_eq_true (by first | (with_reducible assumption) | assumption)
                      have q12 : x7_1 < (tx110.size : Int) := of_decide_eq_true (by first | (with_reducible assumption) | assumption)
                      have hx12 := bt_at tx110 x7_1
                      replace p12 := eq_true p12
                      replace q12 := eq_true q12
                      have p14 : 0 ≤ (x7_1 : Int) := of_decide_eq_true (by first | (with_reducible assumption) | assumption)
                      have q14 : x7_1 < (tx110.size : Int) := of_decide_eq_true (by first | (with_reducible assumption) | assumption)
                      have hx14 := bt_at tx110 x7_1
                      replace p14 := eq_true p14
                      replace q14 := eq_true q14
                      have p16 : 0 ≤ (x7_1 : Int) := of_decide_eq_true (by first | (with_reducible assumption) | assumption)
                      have q16 : x7_1 < (tx110.size : Int) := of_decide_eq_true (by first | (with_reducible assumption) | assumption)
                      have hx16 := bt_at tx110 x7_1
                      replace p16 := eq_true p16
                      replace q16 := eq_true q16
                      go_wp2
                      go_ret
                      exact ⟨by first | rfl | (simp only [wrap_wrap]; done) | (simp only [wrap_wrap]; rfl) | (simp [errW_none, errW_some] <;> rfl) | (simp only [← hji6]; first | rfl | (simp [errW_none, errW_some] <;> rfl)) | (simp [*, errW_none, errW_some] <;> rfl), by repeat (first | (with_reducible first | exact HB.out | apply below_alloc | apply pw_below_drewN | apply below_drew1) | exact HB.out)⟩
                    · rw [if_neg c17] at H
                      have c17b0 : ((bt tx110 x7_1) == 10) = false := beq_eq_false_iff_ne.mpr c17
                      have c17b1 : ((bt tx110 x7_1) != 10) = true := bne_iff_ne.mpr c17
                      have H' := Aside0.mk H
                      clear H
                      have p12 : 0 ≤ (x7_1 : Int) := of_decide_eq_true (by first | (with_reducible assumption) | assumption)
                      have q12 : x7_1 < (tx110.size : Int) := of_decide_eq_true (by first | (with_reducible assumption) | assumption)
                      have hx12 := bt_at tx110 x7_1
                      replace p12 := eq_true p12
                      replace q12 := eq_true q12
                      have p14 : 0 ≤ (x7_1 : Int) := of_decide_eq_true (by first | (with_reducible assumption) | assumption)
                      have q14 : x7_1 < (tx110.size : Int) := of_decide_eq_true (by first | (with_reducible assumption) | assumption)
                      have hx14 := bt_at tx110 x7_1
                      replace p14 := eq_true p14
                      replace q14 := eq_true q14
                      have p16 : 0 ≤ (x7_1 : Int) := of_decide_eq_true (by first | (with_reducible assumption) | assumption)
                      have q16 : x7_1 < (tx110.size : Int) := of_decide_eq_true (by first | (with_reducible assumption) | assumption)
                      have hx16 := bt_at tx110 x7_1
                      replace p16 := eq_true p16
                      replace q16 := eq_true q16
                      go_wp2
                      go_roundg k1
                      case measure => have := HK1.out; omega
                      case rel => exact ⟨(wrap64 (x7_1 + 1)), (by first | rfl | (simp; done) | (simp [*]; done)), (by first | exact H' | (simp only [hji6]; exact H')), ⟨by have := HK1.out; omega⟩, ⟨by repeat (first | (with_reducible first | exact HB.out | apply below_alloc | apply pw_below_drewN | apply below_drew1) | exact HB.out)⟩⟩
              · rw [if_neg c11] at H
                exact absurd H (by simp)
            · rw [if_neg c10] at H
              have c10b0 : decide (x7_1 < (tx110.size : Int)) = false := decide_eq_false c10
              clear c10
              replace H := Option.bind_eq_some_iff.mp H
              obtain ⟨⟨t248, t251, t252⟩, A180, H⟩ := H
              replace H : ((template_Build.f t248 a1 l2).bind fun bt254 => (if t251 = 0 then (if bt254.2 = 0 then (if bt254.1.toList = tx110.toList then (runnellaw13_TemplatePlain.j1 k1 a1 ((t248.length : Int) != (mn (tx110.size : Int) 1))) else (runnellaw13_TemplatePlain.j1 k1 a1 true)) else (runnellaw13_TemplatePlain.j1 k1 a1 true)) else (runnellaw13_TemplatePlain.j1 k1 a1 true))) = some r := H
              have A18 := Aside0.mk A180
              clear A180
              replace H := Option.bind_eq_some_iff.mp H
              obtain ⟨⟨t254, t255⟩, A190, H⟩ := H
              replace H : (if t251 = 0 then (if t255 = 0 then (if t254.toList = tx110.toList then (runnellaw13_TemplatePlain.j1 k1 a1 ((t248.length : Int) != (mn (tx110.size : Int) 1))) else (runnellaw13_TemplatePlain.j1 k1 a1 true)) else (runnellaw13_TemplatePlain.j1 k1 a1 true)) else (runnellaw13_TemplatePlain.j1 k1 a1 true)) = some r := H
              have A19 := Aside0.mk A190
              clear A190
              have HC20 := Aside0.mk H
              clear H
              go_upto_region 11 with (first | ((with_reducible refine gate_callee (f := 22) rfl ?_); refine goesL_ (some 44) rfl rfl Try.func22 (by kernel_rfl) rfl #[.string tx110] rfl (by (try simp only [List.map_toArray, List.map_cons, List.map_nil]); first | done | (simp only [hji6]; rfl) | rfl | (simp only [List.length_drop, List.length_take]; rfl)) ?_; (with_reducible refine (template_Parse.calls tx110 t248 t251 t252 _ A18.out).mono ?_); rintro e w21 ⟨v249, rfl, ho0, hb⟩; refine ⟨_, rfl, ?_⟩; have n0_ := Aside0.mk (Kd.R_lower ho0 (below_size (by repeat (first | (with_reducible first | exact HB.out | apply below_alloc | apply pw_below_drewN | apply below_drew1) | exact HB.out)))); have n1_ := Aside0.mk (below_step (by repeat (first | (with_reducible first | exact HB.out | apply below_alloc | apply pw_below_drewN | apply below_drew1) | exact HB.out)) hb); clear HB; have HO250 := n0_; have HB := n1_; clear n0_ n1_; (try clear hb); (try clear hb2); (try clear hk); (try clear hi); (try clear ho0)) | ((with_reducible refine gate_dst (N := 9) rfl ?_); (try (refine gate_guard (by rfl) ?_; dsimp only)); refine box_event ?hg (N := 9) ?hd (cs := #[.int .i64 0, .int .i64 0]) (t := 30) ?hr ?_; (case hd => rfl); (case hg => rfl); (case hr => first | (go_simp; done) | (go_simp; rfl)); intro gb253 hg w22 hbox hb; have n0_ := Aside0.mk (Kd.R_below (by (with_reducible repeat (first | apply Kd.R_alloc | apply Kd.R_drewN | apply Kd.R_drew)); exact HO250.out) hb); have n1_ := Aside0.mk (below_step (by repeat (first | (with_reducible first | exact HB.out | apply below_alloc | apply pw_below_drewN | apply below_drew1) | exact HB.out)) hb); have n2_ := Aside0.mk (hbox); have n3_ := Aside0.mk ((by rw [hg]; exact (below_size (by repeat (first | (with_reducible first | exact HB.out | apply below_alloc | apply pw_below_drewN | apply below_drew1) | exact HB.out))) : w.heap.size ≤ gb253)); have n4_ := Aside0.mk ((by rw [hg]; exact (below_size (by repeat (first | (with_reducible first | exact HB.out | apply below_alloc | apply pw_below_drewN | apply below_drew1) | exact HB.out))) : w.heap.size ≤ gb253)); clear HO250; clear HB; have HO250 := n0_; have HB := n1_; have BK253 := n2_; have GW253 := n3_; have GE253 := n4_; clear n0_ n1_ n2_ n3_ n4_; clear hb hbox hg; have hcz23_0 : w22.cell? ⟨gb253, 0, none⟩ = some (.int .i64 0) := (blk_cell BK253.out 0).trans rfl; have hcz23_1 : w22.cell? ⟨gb253, 1, none⟩ = some (.int .i64 0) := (blk_cell BK253.out 1).trans rfl; have hfz23_0 := blk_frozen BK253.out 0; have hfz23_1 := blk_frozen BK253.out 1; obtain ⟨Ao24, co24, eo24⟩ := Kd.R_slice HO250.out; subst eo24) | ((with_reducible refine gate_callee (f := 26) rfl ?_); refine goesL_ (some 51) rfl rfl Try.func26 (by kernel_rfl) rfl #[.slice Ao24 t248.length co24, .string a1, .slice A2 l2.length c2] rfl (by (try simp only [List.map_toArray, List.map_cons, List.map_nil]); first | done | rfl | (simp only [List.length_drop, List.length_take]; rfl)) ?_; (with_reducible refine (template_Build.calls _ _ t248 a1 _ _ l2 t254 t255 _ ?side1 ?side2 ?side3 ?side4 A19.out).mono ?_); (case side1 => refine (Kd.R_reads' (e := 117) (base := w.heap.size) (ok := fun k_ => True) (n := t248.length) (c := co24) ?_).2.2; exact (by (with_reducible repeat (first | apply Kd.R_alloc | apply Kd.R_drewN | apply Kd.R_drew)); exact (Kd.R_mono (Kd.R_far (p := ⟨gb253, 1, none⟩) (Kd.R_far (p := ⟨gb253, 0, none⟩) (Kd.R_types HO250.out BK253.out (by decide)) (fun _ hk => hk.2) (.int .i64 t251)) (fun _ hk => hk.2) (.int .i64 t252)) (fun _ h_ => h_.1)))); (case side2 => exact (Kd.R_reads' HO250.out).2.1); (case side3 => exact Kd.C_below HR2.out (by repeat (first | (with_reducible first | exact HB.out | apply below_alloc | apply pw_below_drewN | apply below_drew1 | refine below_set ?_ GE253.out) | exact HB.out))); (case side4 => exact HC2.out); rintro e w25 ⟨rfl, hb⟩; refine ⟨_, rfl, ?_⟩; have n0_ := Aside0.mk (Kd.R_below (by (with_reducible repeat (first | apply Kd.R_alloc | apply Kd.R_drewN | apply Kd.R_drew)); exact (Kd.R_mono (Kd.R_far (p := ⟨gb253, 1, none⟩) (Kd.R_far (p := ⟨gb253, 0, none⟩) (Kd.R_types HO250.out BK253.out (by decide)) (fun _ hk => hk.2) (.int .i64 t251)) (fun _ hk => hk.2) (.int .i64 t252)) (fun _ h_ => h_.1))) hb); have n1_ := Aside0.mk (blk_below (g := gb253) (o := .cells #[.int .i64 t251, .int .i64 t252] 30 (0, 0)) (by (with_reducible repeat (first | refine blk_drewN ?_ _ | refine blk_drew ?_ | refine blk_alloc ?_ _)); refine blk_put (cs := #[.int .i64 t251, .int .i64 0]) ?_ 1 _ rfl; (with_reducible repeat (first | refine blk_drewN ?_ _ | refine blk_drew ?_ | refine blk_alloc ?_ _)); refine blk_put (cs := #[.int .i64 0, .int .i64 0]) ?_ 0 _ rfl; (with_reducible repeat (first | refine blk_drewN ?_ _ | refine blk_drew ?_ | refine blk_alloc ?_ _)); exact BK253.out) hb); have n2_ := Aside0.mk (below_step (by repeat (first | (with_reducible first | exact HB.out | apply below_alloc | apply pw_below_drewN | apply below_drew1 | refine below_set ?_ GE253.out) | exact HB.out)) hb); clear HO250; clear BK253; clear HB; have HO250 := n0_; have BK253 := n1_; have HB := n2_; clear n0_ n1_ n2_; (try clear hb); (try clear hb2); (try clear hk); (try clear hi)))
              (try simp only [Act.put, List.setIfInBounds_toArray, List.set_cons_zero, List.set_cons_succ])
              go_cut [73] (fun v73 wc => ∃ (kq : Nat) (x73_19 : Bool), v73 = .bool x73_19 ∧ Aside0 (runnellaw13_TemplatePlain.j1 kq a1 x73_19 = some r) ∧ Aside0 (kq ≤ k1) ∧ Aside0 (wc.heap[gb253]? = some (.cells #[.int .i64 t251, .int .i64 t252] 30 (0, 0))) ∧ Aside0 (Below w.heap.size w wc))
              case first =>
                have H := HC20.out
                clear HC20
                by_cases c26 : t251 = 0
                · rw [if_pos c26] at H
                  have c26b0 : (t251 == 0) = true := beq_iff_eq.mpr c26
                  have c26b1 : (t251 != 0) = false := bne_eq_false_iff_eq.mpr c26
                  clear c26
                  (first | rw [c26b0] | (simp only [i64_w, i32_w]; rw [c26b0]) | skip)
                  by_cases c27 : t255 = 0
                  · rw [if_pos c27] at H
                    have c27b0 : (t255 == 0) = true := beq_iff_eq.mpr c27
                    have c27b1 : (t255 != 0) = false := bne_eq_false_iff_eq.mpr c27
                    clear c27
                    by_cases c28 : t254.toList = tx110.toList
                    · rw [if_pos c28] at H
                      have c28b0 : (t254.toList == tx110.toList) = true := beq_iff_eq.mpr c28
                      have c28b1 : (t254.toList != tx110.toList) = false := bne_eq_false_iff_eq.mpr c28
                      clear c28
                      obtain ⟨ji29, hji29⟩ : ∃ j_ : Int, (mn (tx110.size : Int) 1) = j_ := ⟨_, rfl⟩
                      replace H : (runnellaw13_TemplatePlain.j1 k1 a1 ((t248.length : Int) != (ji29))) = some r := by first | (rw [hji29] at H; exact H) | (simp only [hji29] at H ⊢; exact H)
                      have hji29_ : (if 1 < (tx110.size : Int) then 1 else (tx110.size : Int)) = ji29 := hji29
                      have H' := Aside0.mk H
                      clear H
                      have hcz30_0 : w25.cell? ⟨gb253, 0, none⟩ = some (.int .i64 t251) := (blk_cell BK253.out 0).trans rfl
                      have hcz30_1 : w25.cell? ⟨gb253, 1, none⟩ = some (.int .i64 t252) := (blk_cell BK253.out 1).trans rfl
                      have hfz30_0 := blk_frozen BK253.out 0
                      have hfz30_1 := blk_frozen BK253.out 1
                      go_wp2
                      go_meet
                      case rel => exact ⟨_, (((t248.length : Int) != (ji29))), (by first | rfl | (simp; done) | (simp only [← hji29] <;> (first | rfl | simp)) | (simp [*]; done)), (by first | exact H' | (simp only [hji6, hji29]; exact H')), ⟨by have := HK1.out; first | omega | exact Nat.le_refl _⟩, ⟨by (with_reducible repeat (first | refine blk_drewN ?_ _ | refine blk_drew ?_ | refine blk_alloc ?_ _)); exact BK253.out⟩, ⟨by repeat (first | (with_reducible first | exact HB.out | apply below_alloc | apply pw_below_drewN | apply below_drew1 | refine below_set ?_ GE253.out) | exact HB.out)⟩⟩
                    · rw [if_neg c28] at H
                      have c28b0 : (t254.toList == tx110.toList) = false := beq_eq_false_iff_ne.mpr c28
                      have c28b1 : (t254.toList != tx110.toList) = true := bne_iff_ne.mpr c28
                      have H' := Aside0.mk H
                      clear H
                      have hcz31_0 : w25.cell? ⟨gb253, 0, none⟩ = some (.int .i64 t251) := (blk_cell BK253.out 0).trans rfl
                      have hcz31_1 : w25.cell? ⟨gb253, 1, none⟩ = some (.int .i64 t252) := (blk_cell BK253.out 1).trans rfl
                      have hfz31_0 := blk_frozen BK253.out 0
                      have hfz31_1 := blk_frozen BK253.out 1
                      go_wp2
                      go_meet
                      case rel => exact ⟨_, (true), (by first | rfl | (simp; done) | (simp [*]; done)), (by first | exact H' | (simp only [hji6]; exact H')), ⟨by have := HK1.out; first | omega | exact Nat.le_refl _⟩, ⟨by (with_reducible repeat (first | refine blk_drewN ?_ _ | refine blk_drew ?_ | refine blk_alloc ?_ _)); exact BK253.out⟩, ⟨by repeat (first | (with_reducible first | exact HB.out | apply below_alloc | apply pw_below_drewN | apply below_drew1 | refine below_set ?_ GE253.out) | exact HB.out)⟩⟩
                  · rw [if_neg c27] at H
                    have c27b0 : (t255 == 0) = false := beq_eq_false_iff_ne.mpr c27
                    have c27b1 : (t255 != 0) = true := bne_iff_ne.mpr c27
                    have H' := Aside0.mk H
                    clear H
                    have hcz32_0 : w25.cell? ⟨gb253, 0, none⟩ = some (.int .i64 t251) := (blk_cell BK253.out 0).trans rfl
                    have hcz32_1 : w25.cell? ⟨gb253, 1, none⟩ = some (.int .i64 t252) := (blk_cell BK253.out 1).trans rfl
                    have hfz32_0 := blk_frozen BK253.out 0
                    have hfz32_1 := blk_frozen BK253.out 1
                    go_wp2
                    go_meet
                    case rel => exact ⟨_, (true), (by first | rfl | (simp; done) | (simp [*]; done)), (by first | exact H' | (simp only [hji6]; exact H')), ⟨by have := HK1.out; first | omega | exact Nat.le_refl _⟩, ⟨by (with_reducible repeat (first | refine blk_drewN ?_ _ | refine blk_drew ?_ | refine blk_alloc ?_ _)); exact BK253.out⟩, ⟨by repeat (first | (with_reducible first | exact HB.out | apply below_alloc | apply pw_below_drewN | apply below_drew1 | refine below_set ?_ GE253.out) | exact HB.out)⟩⟩
                · rw [if_neg c26] at H
                  have c26b0 : (t251 == 0) = false := beq_eq_false_iff_ne.mpr c26
                  have c26b1 : (t251 != 0) = true := bne_iff_ne.mpr c26
                  (first | rw [c26b0] | (simp only [i64_w, i32_w]; rw [c26b0]) | skip)
                  have H' := Aside0.mk H
                  clear H
                  have hcz33_0 : w25.cell? ⟨gb253, 0, none⟩ = some (.int .i64 t251) := (blk_cell BK253.out 0).trans rfl
                  have hcz33_1 : w25.cell? ⟨gb253, 1, none⟩ = some (.int .i64 t252) := (blk_cell BK253.out 1).trans rfl
                  have hfz33_0 := blk_frozen BK253.out 0
                  have hfz33_1 := blk_frozen BK253.out 1
                  go_wp2
                  go_meet
                  case rel => exact ⟨_, (true), (by first | rfl | (simp; done) | (simp [*]; done)), (by first | exact H' | (simp only [hji6]; exact H')), ⟨by have := HK1.out; first | omega | exact Nat.le_refl _⟩, ⟨by (with_reducible repeat (first | refine blk_drewN ?_ _ | refine blk_drew ?_ | refine blk_alloc ?_ _)); exact BK253.out⟩, ⟨by repeat (first | (with_reducible first | exact HB.out | apply below_alloc | apply pw_below_drewN | apply below_drew1 | refine below_set ?_ GE253.out) | exact HB.out)⟩⟩
              case rest =>
                clear HC20
                try clear c1
                try clear p1
                try clear q1
                try clear hx1
                try clear c2
                try clear p2
                try clear c5
                try clear p6
                try clear c7
                try clear c7b0
                try clear c7b1
                try clear c8
                try clear c8b0
                try clear c8b1
                try clear c9
                try clear c10
                try clear c10b0
                try clear c11
                try clear c11b0
                try clear p12
                try clear q12
                try clear hx12
                try clear c13
                try clear c13b0
                try clear c13b1
                try clear p14
                try clear q14
                try clear hx14
                try clear c15
                try clear c15b0
                try clear c15b1
                try clear p16
                try clear q16
                try clear hx16
                try clear c17
                try clear c17b0
                try clear c17b1
                try clear c22
                try clear c24
                try clear c26
                try clear c26b0
                try clear c26b1
                try clear c27
                try clear c27b0
                try clear c27b1
                try clear c28
                try clear c28b0
                try clear c28b1
                try clear hcz23_0
                try clear hcz23_1
                try clear hcz30_0
                try clear hcz30_1
                try clear hcz31_0
                try clear hcz31_1
                try clear hcz32_0
                try clear hcz32_1
                try clear hcz33_0
                try clear hcz33_1
                try clear hfz23_0
                try clear hfz23_1
                try clear hfz30_0
                try clear hfz30_1
                try clear hfz31_0
                try clear hfz31_1
                try clear hfz32_0
                try clear hfz32_1
                try clear hfz33_0
                try clear hfz33_1
                try clear p12
                try clear p14
                try clear p16
                try clear p2
                try clear q12
                try clear q14
                try clear q16
                obtain ⟨kq, x73_19, rfl, HA, HJ19, BK253, HB⟩ := hcut
                cases kq with
                | zero => exact absurd HA.out (by simp [runnellaw13_TemplatePlain.j1])
                | succ kj19 =>
                  have H := HA.out
                  clear HA
                  simp only [runnellaw13_TemplatePlain.j1] at H
                  by_cases c34 : x73_19 = true
                  · subst c34
                    have H1 : (some false) = some r := by rw [if_pos rfl] at H; exact H
                    clear H
                    have H := H1
                    clear H1
                    obtain rfl := Option.some.inj H
                    go_wp2
                    go_ret
                    exact ⟨by first | rfl | (simp only [wrap_wrap]; done) | (simp only [wrap_wrap]; rfl) | (simp [errW_none, errW_some] <;> rfl) | (simp only [← hji6]; first | rfl | (simp [errW_none, errW_some] <;> rfl)) | (simp [*, errW_none, errW_some] <;> rfl), by repeat (first | (with_reducible first | exact HB.out | apply below_alloc | apply pw_below_drewN | apply below_drew1 | refine below_set ?_ GE253.out) | exact HB.out)⟩
                  · replace c34 := Bool.eq_false_iff.mpr c34
                    subst c34
                    have H1 : ((template_Parse.f (⟨#[60, 38, 62]⟩ : ByteArray)).bind fun bt256 => ((template_Build.f bt256.1 a1 (([(⟨0, mn (a1.size : Int) 300⟩ : S55)] : List (S55)))).bind fun bt264 => (if bt256.2.1 = 0 then (if bt264.2 = 0 then (if 0 ≤ (mn (a1.size : Int) 300) then (if (mn (a1.size : Int) 300) ≤ (a1.size : Int) then (if 1 + (a1.extract 0 ((mn (a1.size : Int) 300) : Int).toNat).size ≤ 9223372036854775807 then (if ((⟨#[60]⟩ : ByteArray) ++ (a1.extract 0 ((mn (a1.size : Int) 300) : Int).toNat)).size + 1 ≤ 9223372036854775807 then (some (bt264.1.toList == (((⟨#[60]⟩ : ByteArray) ++ (a1.extract 0 ((mn (a1.size : Int) 300) : Int).toNat)) ++ (⟨#[62]⟩ : ByteArray)).toList)) else (none)) else (none)) else (none)) else (none)) else (some false)) else (some false)))) = some r := by rw [if_neg (show ¬ (false = true) by decide)] at H; exact H
                    clear H
                    have H := H1
                    clear H1
                    replace H := Option.bind_eq_some_iff.mp H
                    obtain ⟨⟨t256, t259, t260⟩, A350, H⟩ := H
                    replace H : ((template_Build.f t256 a1 (([(⟨0, mn (a1.size : Int) 300⟩ : S55)] : List (S55)))).bind fun bt264 => (if t259 = 0 then (if bt264.2 = 0 then (if 0 ≤ (mn (a1.size : Int) 300) then (if (mn (a1.size : Int) 300) ≤ (a1.size : Int) then (if 1 + (a1.extract 0 ((mn (a1.size : Int) 300) : Int).toNat).size ≤ 9223372036854775807 then (if ((⟨#[60]⟩ : ByteArray) ++ (a1.extract 0 ((mn (a1.size : Int) 300) : Int).toNat)).size + 1 ≤ 9223372036854775807 then (some (bt264.1.toList == (((⟨#[60]⟩ : ByteArray) ++ (a1.extract 0 ((mn (a1.size : Int) 300) : Int).toNat)) ++ (⟨#[62]⟩ : ByteArray)).toList)) else (none)) else (none)) else (none)) else (none)) else (some false)) else (some false))) = some r := H
                    have A35 := Aside0.mk A350
                    clear A350
                    obtain ⟨ji36, hji36⟩ : ∃ j_ : Int, (mn (a1.size : Int) 300) = j_ := ⟨_, rfl⟩
                    replace H : ((template_Build.f t256 a1 (([(⟨0, ji36⟩ : S55)] : List (S55)))).bind fun bt264 => (if t259 = 0 then (if bt264.2 = 0 then (if 0 ≤ (ji36) then (if (ji36) ≤ (a1.size : Int) then (if 1 + (a1.extract 0 ((ji36) : Int).toNat).size ≤ 9223372036854775807 then (if ((⟨#[60]⟩ : ByteArray) ++ (a1.extract 0 ((ji36) : Int).toNat)).size + 1 ≤ 9223372036854775807 then (some (bt264.1.toList == (((⟨#[60]⟩ : ByteArray) ++ (a1.extract 0 ((ji36) : Int).toNat)) ++ (⟨#[62]⟩ : ByteArray)).toList)) else (none)) else (none)) else (none)) else (none)) else (some false)) else (some false))) = some r := by first | (rw [hji36] at H; exact H) | (simp only [hji36] at H ⊢; exact H)
                    (try rw [hji36] at A35)
                    have hji36_ : (if 300 < (a1.size : Int) then 300 else (a1.size : Int)) = ji36 := hji36
                    obtain ⟨y261, hy261⟩ : ∃ y_ : List (S55), y_ = (([(⟨0, ji36⟩ : S55)] : List (S55))) := ⟨_, rfl⟩
                    replace H : ((template_Build.f t256 a1 y261).bind fun bt264 => (if t259 = 0 then (if bt264.2 = 0 then (if 0 ≤ (ji36) then (if (ji36) ≤ (a1.size : Int) then (if 1 + (a1.extract 0 ((ji36) : Int).toNat).size ≤ 9223372036854775807 then (if ((⟨#[60]⟩ : ByteArray) ++ (a1.extract 0 ((ji36) : Int).toNat)).size + 1 ≤ 9223372036854775807 then (some (bt264.1.toList == (((⟨#[60]⟩ : ByteArray) ++ (a1.extract 0 ((ji36) : Int).toNat)) ++ (⟨#[62]⟩ : ByteArray)).toList)) else (none)) else (none)) else (none)) else (none)) else (some false)) else (some false))) = some r := by first | (rw [hy261]; with_reducible exact H) | (have H2_ := (Option.bind_some _ _).symm.trans H; rw [hy261]; with_reducible exact H2_) | (have H2_ := (Option.bind_some _ _).symm.trans H; with_reducible exact H2_) | with_reducible exact H | (rw [hy261]; exact H) | exact H
                    have Ny261 := Aside0.mk hy261
                    clear hy261
                    replace H := Option.bind_eq_some_iff.mp H
                    obtain ⟨⟨t264, t265⟩, A370, H⟩ := H
                    replace H : (if t259 = 0 then (if t265 = 0 then (if 0 ≤ (ji36) then (if (ji36) ≤ (a1.size : Int) then (if 1 + (a1.extract 0 ((ji36) : Int).toNat).size ≤ 9223372036854775807 then (if ((⟨#[60]⟩ : ByteArray) ++ (a1.extract 0 ((ji36) : Int).toNat)).size + 1 ≤ 9223372036854775807 then (some (t264.toList == (((⟨#[60]⟩ : ByteArray) ++ (a1.extract 0 ((ji36) : Int).toNat)) ++ (⟨#[62]⟩ : ByteArray)).toList)) else (none)) else (none)) else (none)) else (none)) else (some false)) else (some false)) = some r := H
                    have A37 := Aside0.mk A370
                    clear A370
                    by_cases c38 : t259 = 0
                    · rw [if_pos c38] at H
                      have c38b0 : (t259 == 0) = true := beq_iff_eq.mpr c38
                      have c38b1 : (t259 != 0) = false := bne_eq_false_iff_eq.mpr c38
                      clear c38
                      by_cases c39 : t265 = 0
                      · rw [if_pos c39] at H
                        have c39b0 : (t265 == 0) = true := beq_iff_eq.mpr c39
                        have c39b1 : (t265 != 0) = false := bne_eq_false_iff_eq.mpr c39
                        clear c39
                        by_cases c40 : 0 ≤ (ji36)
                        · rw [if_pos c40] at H
                          have c40b0 := eq_true c40
                          have c40b1 : decide (0 ≤ (ji36)) = true := decide_eq_true c40
                          clear c40
                          by_cases c41 : (ji36) ≤ (a1.size : Int)
                          · rw [if_pos c41] at H
                            have c41b0 := eq_true c41
                            have c41b1 : decide ((ji36) ≤ (a1.size : Int)) = true := decide_eq_true c41
                            clear c41
                            by_cases c42 : 1 + (a1.extract 0 ((ji36) : Int).toNat).size ≤ 9223372036854775807
                            · rw [if_pos c42] at H
                              have c42b0 := eq_true c42
                              have c42b1 : decide (1 + (a1.extract 0 ((ji36) : Int).toNat).size ≤ 9223372036854775807) = true := decide_eq_true c42
                              try have c42b2 : (9223372036854775807 < 1 + (a1.extract 0 ((ji36) : Int).toNat).size) = False := eq_false (Nat.not_lt.2 c42)
                              (try (have c42b3 := c42; simp only [ByteArray.size_append', ByteArray.size_mk', ByteArray.size_extract, List.size_toArray, List.length_cons, List.length_nil, Nat.reduceAdd] at c42b3; have c42b4 := eq_true c42b3; have c42b5 := eq_false (Nat.not_lt.2 c42b3)))
                              by_cases c43 : ((⟨#[60]⟩ : ByteArray) ++ (a1.extract 0 ((ji36) : Int).toNat)).size + 1 ≤ 9223372036854775807
                              · rw [if_pos c43] at H
                                have c43b0 := eq_true c43
                                have c43b1 : decide (((⟨#[60]⟩ : ByteArray) ++ (a1.extract 0 ((ji36) : Int).toNat)).size + 1 ≤ 9223372036854775807) = true := decide_eq_true c43
                                try have c43b2 : (9223372036854775807 < ((⟨#[60]⟩ : ByteArray) ++ (a1.extract 0 ((ji36) : Int).toNat)).size + 1) = False := eq_false (Nat.not_lt.2 c43)
                                (try (have c43b3 := c43; simp only [ByteArray.size_append', ByteArray.size_mk', ByteArray.size_extract, List.size_toArray, List.length_cons, List.length_nil, Nat.reduceAdd] at c43b3; have c43b4 := eq_true c43b3; have c43b5 := eq_false (Nat.not_lt.2 c43b3)))
                                obtain rfl := Option.some.inj H
                                go_wp2_with (first | ((with_reducible refine gate_callee (f := 22) rfl ?_); refine goesL_ (some 75) rfl rfl Try.func22 (by kernel_rfl) rfl #[.string (⟨#[60, 38, 62]⟩ : ByteArray)] rfl (by (try simp only [List.map_toArray, List.map_cons, List.map_nil]); first | done | rfl | (simp only [List.length_drop, List.length_take]; rfl)) ?_; (with_reducible refine (template_Parse.calls (⟨#[60, 38, 62]⟩ : ByteArray) t256 t259 t260 _ A35.out).mono ?_); rintro e w44 ⟨v257, rfl, ho0, hb⟩; refine ⟨_, rfl, ?_⟩; have n0_ := Aside0.mk (Kd.R_lower ho0 (below_size (by repeat (first | (with_reducible first | exact HB.out | apply below_alloc | apply pw_below_drewN | apply below_drew1 | refine below_set ?_ GE253.out) | exact HB.out)))); have n1_ := Aside0.mk (blk_below (g := gb253) (o := .cells #[.int .i64 t251, .int .i64 t252] 30 (0, 0)) (by (with_reducible repeat (first | refine blk_drewN ?_ _ | refine blk_drew ?_ | refine blk_alloc ?_ _)); exact BK253.out) hb); have n2_ := Aside0.mk (below_step (by repeat (first | (with_reducible first | exact HB.out | apply below_alloc | apply pw_below_drewN | apply below_drew1 | refine below_set ?_ GE253.out) | exact HB.out)) hb); clear BK253; clear HB; have HO258 := n0_; have BK253 := n1_; have HB := n2_; clear n0_ n1_ n2_; (try clear hb); (try clear hb2); (try clear hk); (try clear hi); (try clear ho0); have hcz45_0 : w44.cell? ⟨gb253, 0, none⟩ = some (.int .i64 t251) := (blk_cell BK253.out 0).trans rfl; have hcz45_1 : w44.cell? ⟨gb253, 1, none⟩ = some (.int .i64 t252) := (blk_cell BK253.out 1).trans rfl; have hfz45_0 := blk_frozen BK253.out 0; have hfz45_1 := blk_frozen BK253.out 1) | ((with_reducible refine gate_dst (N := 86) rfl ?_); (try (refine gate_guard (by rfl) ?_; dsimp only)); refine Kd.R_lit k55 _ 55 ?hg (N := 86) ?hd (xs := ([(⟨0, ji36⟩ : S55)] : List (S55))) (inner := [.int .i64 0, .int .i64 ji36]) (ok := fun _ => True) (okp := fun _ => True) ?hr ?hp (fun _ hk => hk) trivial (Below.refl _ _) (Nat.le_refl _) (by simp) ?_; (case hd => rfl); (case hg => rfl); (case hr => first | (go_simp; done) | (go_simp; rfl)); (case hp => exact (Reps.c2 (show Kd.M k55 _ _ _ (⟨0, ji36⟩ : S55) [.int .i64 0, .int .i64 ji36] from (k55_mkM _ _ _ (⟨0, ji36⟩ : S55) )) (Reps.none _ _))); intro v262 w46 ho47 hb hg_ hnew_; clear hg_ hnew_; (first | rw [← Ny261.out] at ho47 | (simp only [Int.reduceToNat] at ho47; rw [← Ny261.out] at ho47)); have n0_ := Aside0.mk (Kd.R_below (by (with_reducible repeat (first | apply Kd.R_alloc | apply Kd.R_drewN | apply Kd.R_drew)); exact (Kd.R_mono (Kd.R_far (p := ⟨gb253, 1, none⟩) (Kd.R_far (p := ⟨gb253, 0, none⟩) (Kd.R_types HO258.out BK253.out (by decide)) (fun _ hk => hk.2) (.int .i64 t259)) (fun _ hk => hk.2) (.int .i64 t260)) (fun _ h_ => h_.1))) hb); have n1_ := Aside0.mk (Kd.R_lower ho47 (below_size (by repeat (first | (with_reducible first | exact HB.out | apply below_alloc | apply pw_below_drewN | apply below_drew1 | refine below_set ?_ GE253.out) | exact HB.out)))); have n2_ := Aside0.mk (blk_below (g := gb253) (o := .cells #[.int .i64 t259, .int .i64 t260] 30 (0, 0)) (by (with_reducible repeat (first | refine blk_drewN ?_ _ | refine blk_drew ?_ | refine blk_alloc ?_ _)); refine blk_put (cs := #[.int .i64 t259, .int .i64 t252]) ?_ 1 _ rfl; (with_reducible repeat (first | refine blk_drewN ?_ _ | refine blk_drew ?_ | refine blk_alloc ?_ _)); refine blk_put (cs := #[.int .i64 t251, .int .i64 t252]) ?_ 0 _ rfl; (with_reducible repeat (first | refine blk_drewN ?_ _ | refine blk_drew ?_ | refine blk_alloc ?_ _)); exact BK253.out) hb); have n3_ := Aside0.mk (below_step (by repeat (first | (with_reducible first | exact HB.out | apply below_alloc | apply pw_below_drewN | apply below_drew1 | refine below_set ?_ GE253.out) | exact HB.out)) hb); clear HO258; clear BK253; clear HB; have HO258 := n0_; have HO263 := n1_; have BK253 := n2_; have HB := n3_; clear n0_ n1_ n2_ n3_; clear hb ho47; obtain ⟨Ao48, co48, eo48⟩ := Kd.R_slice HO258.out; subst eo48; obtain ⟨Ao49, co49, eo49⟩ := Kd.R_slice HO263.out; subst eo49) | ((with_reducible refine gate_callee (f := 26) rfl ?_); refine goesL_ (some 87) rfl rfl Try.func26 (by kernel_rfl) rfl #[.slice Ao48 t256.length co48, .string a1, .slice Ao49 y261.length co49] rfl (by (try simp only [List.map_toArray, List.map_cons, List.map_nil]); first | done | rfl | (simp only [List.length_drop, List.length_take]; rfl)) ?_; (with_reducible refine (template_Build.calls _ _ t256 a1 _ _ y261 t264 t265 _ ?side1 ?side2 ?side3 ?side4 A37.out).mono ?_); (case side1 => repeat (first | exact (Kd.R_reads' HO258.out).2.2 | (with_reducible refine Kd.C_alloc ?_ _) | (with_reducible refine Kd.C_drewN ?_ _) | (with_reducible refine Kd.C_drew ?_))); (case side2 => exact (Kd.R_reads' HO258.out).2.1); (case side3 => repeat (first | exact (Kd.R_reads' HO263.out).2.2 | (with_reducible refine Kd.C_alloc ?_ _) | (with_reducible refine Kd.C_drewN ?_ _) | (with_reducible refine Kd.C_drew ?_))); (case side4 => exact (Kd.R_reads' HO263.out).2.1); rintro e w50 ⟨rfl, hb⟩; refine ⟨_, rfl, ?_⟩; have n0_ := Aside0.mk (Kd.R_below (by (with_reducible repeat (first | apply Kd.R_alloc | apply Kd.R_drewN | apply Kd.R_drew)); exact HO258.out) hb); have n1_ := Aside0.mk (Kd.R_below (by (with_reducible repeat (first | apply Kd.R_alloc | apply Kd.R_drewN | apply Kd.R_drew)); exact HO263.out) hb); have n2_ := Aside0.mk (blk_below (g := gb253) (o := .cells #[.int .i64 t259, .int .i64 t260] 30 (0, 0)) (by (with_reducible repeat (first | refine blk_drewN ?_ _ | refine blk_drew ?_ | refine blk_alloc ?_ _)); exact BK253.out) hb); have n3_ := Aside0.mk (below_step (by repeat (first | (with_reducible first | exact HB.out | apply below_alloc | apply pw_below_drewN | apply below_drew1 | refine below_set ?_ GE253.out) | exact HB.out)) hb); clear HO258; clear HO263; clear BK253; clear HB; have HO258 := n0_; have HO263 := n1_; have BK253 := n2_; have HB := n3_; clear n0_ n1_ n2_ n3_; (try clear hb); (try clear hb2); (try clear hk); (try clear hi); have hcz51_0 : w50.cell? ⟨gb253, 0, none⟩ = some (.int .i64 t259) := (blk_cell BK253.out 0).trans rfl; have hcz51_1 : w50.cell? ⟨gb253, 1, none⟩ = some (.int .i64 t260) := (blk_cell BK253.out 1).trans rfl; have hfz51_0 := blk_frozen BK253.out 0; have hfz51_1 := blk_frozen BK253.out 1))
                                go_ret
                                exact ⟨by first | rfl | (simp only [wrap_wrap]; done) | (simp only [wrap_wrap]; rfl) | (simp [errW_none, errW_some] <;> rfl) | (simp only [← hji6, ← hji36]; first | rfl | (simp [errW_none, errW_some] <;> rfl)) | (simp [*, errW_none, errW_some] <;> rfl), by repeat (first | (with_reducible first | exact HB.out | apply below_alloc | apply pw_below_drewN | apply below_drew1 | refine below_set ?_ GE253.out) | exact HB.out)⟩
                              · rw [if_neg c43] at H
                                exact absurd H (by simp)
                            · rw [if_neg c42] at H
                              exact absurd H (by simp)
                          · rw [if_neg c41] at H
                            exact absurd H (by simp)
                        · rw [if_neg c40] at H
                          exact absurd H (by simp)
                      · rw [if_neg c39] at H
                        have c39b0 : (t265 == 0) = false := beq_eq_false_iff_ne.mpr c39
                        have c39b1 : (t265 != 0) = true := bne_iff_ne.mpr c39
                        obtain rfl := Option.some.inj H
                        go_wp2_with (first | ((with_reducible refine gate_callee (f := 22) rfl ?_); refine goesL_ (some 75) rfl rfl Try.func22 (by kernel_rfl) rfl #[.string (⟨#[60, 38, 62]⟩ : ByteArray)] rfl (by (try simp only [List.map_toArray, List.map_cons, List.map_nil]); first | done | rfl | (simp only [List.length_drop, List.length_take]; rfl)) ?_; (with_reducible refine (template_Parse.calls (⟨#[60, 38, 62]⟩ : ByteArray) t256 t259 t260 _ A35.out).mono ?_); rintro e w52 ⟨v257, rfl, ho0, hb⟩; refine ⟨_, rfl, ?_⟩; have n0_ := Aside0.mk (Kd.R_lower ho0 (below_size (by repeat (first | (with_reducible first | exact HB.out | apply below_alloc | apply pw_below_drewN | apply below_drew1 | refine below_set ?_ GE253.out) | exact HB.out)))); have n1_ := Aside0.mk (blk_below (g := gb253) (o := .cells #[.int .i64 t251, .int .i64 t252] 30 (0, 0)) (by (with_reducible repeat (first | refine blk_drewN ?_ _ | refine blk_drew ?_ | refine blk_alloc ?_ _)); exact BK253.out) hb); have n2_ := Aside0.mk (below_step (by repeat (first | (with_reducible first | exact HB.out | apply below_alloc | apply pw_below_drewN | apply below_drew1 | refine below_set ?_ GE253.out) | exact HB.out)) hb); clear BK253; clear HB; have HO258 := n0_; have BK253 := n1_; have HB := n2_; clear n0_ n1_ n2_; (try clear hb); (try clear hb2); (try clear hk); (try clear hi); (try clear ho0); have hcz53_0 : w52.cell? ⟨gb253, 0, none⟩ = some (.int .i64 t251) := (blk_cell BK253.out 0).trans rfl; have hcz53_1 : w52.cell? ⟨gb253, 1, none⟩ = some (.int .i64 t252) := (blk_cell BK253.out 1).trans rfl; have hfz53_0 := blk_frozen BK253.out 0; have hfz53_1 := blk_frozen BK253.out 1) | ((with_reducible refine gate_dst (N := 86) rfl ?_); (try (refine gate_guard (by rfl) ?_; dsimp only)); refine Kd.R_lit k55 _ 55 ?hg (N := 86) ?hd (xs := ([(⟨0, ji36⟩ : S55)] : List (S55))) (inner := [.int .i64 0, .int .i64 ji36]) (ok := fun _ => True) (okp := fun _ => True) ?hr ?hp (fun _ hk => hk) trivial (Below.refl _ _) (Nat.le_refl _) (by simp) ?_; (case hd => rfl); (case hg => rfl); (case hr => first | (go_simp; done) | (go_simp; rfl)); (case hp => exact (Reps.c2 (show Kd.M k55 _ _ _ (⟨0, ji36⟩ : S55) [.int .i64 0, .int .i64 ji36] from (k55_mkM _ _ _ (⟨0, ji36⟩ : S55) )) (Reps.none _ _))); intro v262 w54 ho55 hb hg_ hnew_; clear hg_ hnew_; (first | rw [← Ny261.out] at ho55 | (simp only [Int.reduceToNat] at ho55; rw [← Ny261.out] at ho55)); have n0_ := Aside0.mk (Kd.R_below (by (with_reducible repeat (first | apply Kd.R_alloc | apply Kd.R_drewN | apply Kd.R_drew)); exact (Kd.R_mono (Kd.R_far (p := ⟨gb253, 1, none⟩) (Kd.R_far (p := ⟨gb253, 0, none⟩) (Kd.R_types HO258.out BK253.out (by decide)) (fun _ hk => hk.2) (.int .i64 t259)) (fun _ hk => hk.2) (.int .i64 t260)) (fun _ h_ => h_.1))) hb); have n1_ := Aside0.mk (Kd.R_lower ho55 (below_size (by repeat (first | (with_reducible first | exact HB.out | apply below_alloc | apply pw_below_drewN | apply below_drew1 | refine below_set ?_ GE253.out) | exact HB.out)))); have n2_ := Aside0.mk (blk_below (g := gb253) (o := .cells #[.int .i64 t259, .int .i64 t260] 30 (0, 0)) (by (with_reducible repeat (first | refine blk_drewN ?_ _ | refine blk_drew ?_ | refine blk_alloc ?_ _)); refine blk_put (cs := #[.int .i64 t259, .int .i64 t252]) ?_ 1 _ rfl; (with_reducible repeat (first | refine blk_drewN ?_ _ | refine blk_drew ?_ | refine blk_alloc ?_ _)); refine blk_put (cs := #[.int .i64 t251, .int .i64 t252]) ?_ 0 _ rfl; (with_reducible repeat (first | refine blk_drewN ?_ _ | refine blk_drew ?_ | refine blk_alloc ?_ _)); exact BK253.out) hb); have n3_ := Aside0.mk (below_step (by repeat (first | (with_reducible first | exact HB.out | apply below_alloc | apply pw_below_drewN | apply below_drew1 | refine below_set ?_ GE253.out) | exact HB.out)) hb); clear HO258; clear BK253; clear HB; have HO258 := n0_; have HO263 := n1_; have BK253 := n2_; have HB := n3_; clear n0_ n1_ n2_ n3_; clear hb ho55; obtain ⟨Ao56, co56, eo56⟩ := Kd.R_slice HO258.out; subst eo56; obtain ⟨Ao57, co57, eo57⟩ := Kd.R_slice HO263.out; subst eo57) | ((with_reducible refine gate_callee (f := 26) rfl ?_); refine goesL_ (some 87) rfl rfl Try.func26 (by kernel_rfl) rfl #[.slice Ao56 t256.length co56, .string a1, .slice Ao57 y261.length co57] rfl (by (try simp only [List.map_toArray, List.map_cons, List.map_nil]); first | done | rfl | (simp only [List.length_drop, List.length_take]; rfl)) ?_; (with_reducible refine (template_Build.calls _ _ t256 a1 _ _ y261 t264 t265 _ ?side1 ?side2 ?side3 ?side4 A37.out).mono ?_); (case side1 => repeat (first | exact (Kd.R_reads' HO258.out).2.2 | (with_reducible refine Kd.C_alloc ?_ _) | (with_reducible refine Kd.C_drewN ?_ _) | (with_reducible refine Kd.C_drew ?_))); (case side2 => exact (Kd.R_reads' HO258.out).2.1); (case side3 => repeat (first | exact (Kd.R_reads' HO263.out).2.2 | (with_reducible refine Kd.C_alloc ?_ _) | (with_reducible refine Kd.C_drewN ?_ _) | (with_reducible refine Kd.C_drew ?_))); (case side4 => exact (Kd.R_reads' HO263.out).2.1); rintro e w58 ⟨rfl, hb⟩; refine ⟨_, rfl, ?_⟩; have n0_ := Aside0.mk (Kd.R_below (by (with_reducible repeat (first | apply Kd.R_alloc | apply Kd.R_drewN | apply Kd.R_drew)); exact HO258.out) hb); have n1_ := Aside0.mk (Kd.R_below (by (with_reducible repeat (first | apply Kd.R_alloc | apply Kd.R_drewN | apply Kd.R_drew)); exact HO263.out) hb); have n2_ := Aside0.mk (blk_below (g := gb253) (o := .cells #[.int .i64 t259, .int .i64 t260] 30 (0, 0)) (by (with_reducible repeat (first | refine blk_drewN ?_ _ | refine blk_drew ?_ | refine blk_alloc ?_ _)); exact BK253.out) hb); have n3_ := Aside0.mk (below_step (by repeat (first | (with_reducible first | exact HB.out | apply below_alloc | apply pw_below_drewN | apply below_drew1 | refine below_set ?_ GE253.out) | exact HB.out)) hb); clear HO258; clear HO263; clear BK253; clear HB; have HO258 := n0_; have HO263 := n1_; have BK253 := n2_; have HB := n3_; clear n0_ n1_ n2_ n3_; (try clear hb); (try clear hb2); (try clear hk); (try clear hi); have hcz59_0 : w58.cell? ⟨gb253, 0, none⟩ = some (.int .i64 t259) := (blk_cell BK253.out 0).trans rfl; have hcz59_1 : w58.cell? ⟨gb253, 1, none⟩ = some (.int .i64 t260) := (blk_cell BK253.out 1).trans rfl; have hfz59_0 := blk_frozen BK253.out 0; have hfz59_1 := blk_frozen BK253.out 1))
                        go_ret
                        exact ⟨by first | rfl | (simp only [wrap_wrap]; done) | (simp only [wrap_wrap]; rfl) | (simp [errW_none, errW_some] <;> rfl) | (simp only [← hji6, ← hji36]; first | rfl | (simp [errW_none, errW_some] <;> rfl)) | (simp [*, errW_none, errW_some] <;> rfl), by repeat (first | (with_reducible first | exact HB.out | apply below_alloc | apply pw_below_drewN | apply below_drew1 | refine below_set ?_ GE253.out) | exact HB.out)⟩
                    · rw [if_neg c38] at H
                      have c38b0 : (t259 == 0) = false := beq_eq_false_iff_ne.mpr c38
                      have c38b1 : (t259 != 0) = true := bne_iff_ne.mpr c38
                      obtain rfl := Option.some.inj H
                      go_wp2_with (first | ((with_reducible refine gate_callee (f := 22) rfl ?_); refine goesL_ (some 75) rfl rfl Try.func22 (by kernel_rfl) rfl #[.string (⟨#[60, 38, 62]⟩ : ByteArray)] rfl (by (try simp only [List.map_toArray, List.map_cons, List.map_nil]); first | done | rfl | (simp only [List.length_drop, List.length_take]; rfl)) ?_; (with_reducible refine (template_Parse.calls (⟨#[60, 38, 62]⟩ : ByteArray) t256 t259 t260 _ A35.out).mono ?_); rintro e w60 ⟨v257, rfl, ho0, hb⟩; refine ⟨_, rfl, ?_⟩; have n0_ := Aside0.mk (Kd.R_lower ho0 (below_size (by repeat (first | (with_reducible first | exact HB.out | apply below_alloc | apply pw_below_drewN | apply below_drew1 | refine below_set ?_ GE253.out) | exact HB.out)))); have n1_ := Aside0.mk (blk_below (g := gb253) (o := .cells #[.int .i64 t251, .int .i64 t252] 30 (0, 0)) (by (with_reducible repeat (first | refine blk_drewN ?_ _ | refine blk_drew ?_ | refine blk_alloc ?_ _)); exact BK253.out) hb); have n2_ := Aside0.mk (below_step (by repeat (first | (with_reducible first | exact HB.out | apply below_alloc | apply pw_below_drewN | apply below_drew1 | refine below_set ?_ GE253.out) | exact HB.out)) hb); clear BK253; clear HB; have HO258 := n0_; have BK253 := n1_; have HB := n2_; clear n0_ n1_ n2_; (try clear hb); (try clear hb2); (try clear hk); (try clear hi); (try clear ho0); have hcz61_0 : w60.cell? ⟨gb253, 0, none⟩ = some (.int .i64 t251) := (blk_cell BK253.out 0).trans rfl; have hcz61_1 : w60.cell? ⟨gb253, 1, none⟩ = some (.int .i64 t252) := (blk_cell BK253.out 1).trans rfl; have hfz61_0 := blk_frozen BK253.out 0; have hfz61_1 := blk_frozen BK253.out 1) | ((with_reducible refine gate_dst (N := 86) rfl ?_); (try (refine gate_guard (by rfl) ?_; dsimp only)); refine Kd.R_lit k55 _ 55 ?hg (N := 86) ?hd (xs := ([(⟨0, ji36⟩ : S55)] : List (S55))) (inner := [.int .i64 0, .int .i64 ji36]) (ok := fun _ => True) (okp := fun _ => True) ?hr ?hp (fun _ hk => hk) trivial (Below.refl _ _) (Nat.le_refl _) (by simp) ?_; (case hd => rfl); (case hg => rfl); (case hr => first | (go_simp; done) | (go_simp; rfl)); (case hp => exact (Reps.c2 (show Kd.M k55 _ _ _ (⟨0, ji36⟩ : S55) [.int .i64 0, .int .i64 ji36] from (k55_mkM _ _ _ (⟨0, ji36⟩ : S55) )) (Reps.none _ _))); intro v262 w62 ho63 hb hg_ hnew_; clear hg_ hnew_; (first | rw [← Ny261.out] at ho63 | (simp only [Int.reduceToNat] at ho63; rw [← Ny261.out] at ho63)); have n0_ := Aside0.mk (Kd.R_below (by (with_reducible repeat (first | apply Kd.R_alloc | apply Kd.R_drewN | apply Kd.R_drew)); exact (Kd.R_mono (Kd.R_far (p := ⟨gb253, 1, none⟩) (Kd.R_far (p := ⟨gb253, 0, none⟩) (Kd.R_types HO258.out BK253.out (by decide)) (fun _ hk => hk.2) (.int .i64 t259)) (fun _ hk => hk.2) (.int .i64 t260)) (fun _ h_ => h_.1))) hb); have n1_ := Aside0.mk (Kd.R_lower ho63 (below_size (by repeat (first | (with_reducible first | exact HB.out | apply below_alloc | apply pw_below_drewN | apply below_drew1 | refine below_set ?_ GE253.out) | exact HB.out)))); have n2_ := Aside0.mk (blk_below (g := gb253) (o := .cells #[.int .i64 t259, .int .i64 t260] 30 (0, 0)) (by (with_reducible repeat (first | refine blk_drewN ?_ _ | refine blk_drew ?_ | refine blk_alloc ?_ _)); refine blk_put (cs := #[.int .i64 t259, .int .i64 t252]) ?_ 1 _ rfl; (with_reducible repeat (first | refine blk_drewN ?_ _ | refine blk_drew ?_ | refine blk_alloc ?_ _)); refine blk_put (cs := #[.int .i64 t251, .int .i64 t252]) ?_ 0 _ rfl; (with_reducible repeat (first | refine blk_drewN ?_ _ | refine blk_drew ?_ | refine blk_alloc ?_ _)); exact BK253.out) hb); have n3_ := Aside0.mk (below_step (by repeat (first | (with_reducible first | exact HB.out | apply below_alloc | apply pw_below_drewN | apply below_drew1 | refine below_set ?_ GE253.out) | exact HB.out)) hb); clear HO258; clear BK253; clear HB; have HO258 := n0_; have HO263 := n1_; have BK253 := n2_; have HB := n3_; clear n0_ n1_ n2_ n3_; clear hb ho63; obtain ⟨Ao64, co64, eo64⟩ := Kd.R_slice HO258.out; subst eo64; obtain ⟨Ao65, co65, eo65⟩ := Kd.R_slice HO263.out; subst eo65) | ((with_reducible refine gate_callee (f := 26) rfl ?_); refine goesL_ (some 87) rfl rfl Try.func26 (by kernel_rfl) rfl #[.slice Ao64 t256.length co64, .string a1, .slice Ao65 y261.length co65] rfl (by (try simp only [List.map_toArray, List.map_cons, List.map_nil]); first | done | rfl | (simp only [List.length_drop, List.length_take]; rfl)) ?_; (with_reducible refine (template_Build.calls _ _ t256 a1 _ _ y261 t264 t265 _ ?side1 ?side2 ?side3 ?side4 A37.out).mono ?_); (case side1 => repeat (first | exact (Kd.R_reads' HO258.out).2.2 | (with_reducible refine Kd.C_alloc ?_ _) | (with_reducible refine Kd.C_drewN ?_ _) | (with_reducible refine Kd.C_drew ?_))); (case side2 => exact (Kd.R_reads' HO258.out).2.1); (case side3 => repeat (first | exact (Kd.R_reads' HO263.out).2.2 | (with_reducible refine Kd.C_alloc ?_ _) | (with_reducible refine Kd.C_drewN ?_ _) | (with_reducible refine Kd.C_drew ?_))); (case side4 => exact (Kd.R_reads' HO263.out).2.1); rintro e w66 ⟨rfl, hb⟩; refine ⟨_, rfl, ?_⟩; have n0_ := Aside0.mk (Kd.R_below (by (with_reducible repeat (first | apply Kd.R_alloc | apply Kd.R_drewN | apply Kd.R_drew)); exact HO258.out) hb); have n1_ := Aside0.mk (Kd.R_below (by (with_reducible repeat (first | apply Kd.R_alloc | apply Kd.R_drewN | apply Kd.R_drew)); exact HO263.out) hb); have n2_ := Aside0.mk (blk_below (g := gb253) (o := .cells #[.int .i64 t259, .int .i64 t260] 30 (0, 0)) (by (with_reducible repeat (first | refine blk_drewN ?_ _ | refine blk_drew ?_ | refine blk_alloc ?_ _)); exact BK253.out) hb); have n3_ := Aside0.mk (below_step (by repeat (first | (with_reducible first | exact HB.out | apply below_alloc | apply pw_below_drewN | apply below_drew1 | refine below_set ?_ GE253.out) | exact HB.out)) hb); clear HO258; clear HO263; clear BK253; clear HB; have HO258 := n0_; have HO263 := n1_; have BK253 := n2_; have HB := n3_; clear n0_ n1_ n2_ n3_; (try clear hb); (try clear hb2); (try clear hk); (try clear hi); have hcz67_0 : w66.cell? ⟨gb253, 0, none⟩ = some (.int .i64 t259) := (blk_cell BK253.out 0).trans rfl; have hcz67_1 : w66.cell? ⟨gb253, 1, none⟩ = some (.int .i64 t260) := (blk_cell BK253.out 1).trans rfl; have hfz67_0 := blk_frozen BK253.out 0; have hfz67_1 := blk_frozen BK253.out 1))
                      go_ret
                      exact ⟨by first | rfl | (simp only [wrap_wrap]; done) | (simp only [wrap_wrap]; rfl) | (simp [errW_none, errW_some] <;> rfl) | (simp only [← hji6, ← hji36]; first | rfl | (simp [errW_none, errW_some] <;> rfl)) | (simp [*, errW_none, errW_some] <;> rfl), by repeat (first | (with_reducible first | exact HB.out | apply below_alloc | apply pw_below_drewN | apply below_drew1 | refine below_set ?_ GE253.out) | exact HB.out)⟩
      · rw [if_neg c8] at H
        exact absurd H (by simp)
    · rw [if_neg c7] at H
      exact absurd H (by simp)
  · replace c5 := Bool.eq_false_iff.mpr c5
    subst c5
    have H1 : (some false) = some r := by rw [if_neg (show ¬ (false = true) by decide)] at H; exact H
    clear H
    have H := H1
    clear H1
    obtain rfl := Option.some.inj H
    go_enter Try.func9, Try.ntmps9
    go_wp2_with (first | ((with_reducible refine gate_callee (f := 24) rfl ?_); refine goesL_ (some 13) rfl rfl Try.func24 (by kernel_rfl) rfl #[] rfl (by (try simp only [List.map_toArray, List.map_cons, List.map_nil]); first | done | rfl | (simp only [List.length_drop, List.length_take]; rfl)) ?_; (with_reducible refine (runnellaw13_awake.calls k  false _ A4.out).mono ?_); rintro e w68 ⟨rfl, hb⟩; refine ⟨_, rfl, ?_⟩; have n0_ := Aside0.mk (below_step (by repeat (first | (with_reducible first | exact HB.out | apply below_alloc | apply pw_below_drewN | apply below_drew1) | exact HB.out)) hb); clear HB; have HB := n0_; clear n0_; (try clear hb); (try clear hb2); (try clear hk); (try clear hi)))
    go_ret
    exact ⟨by first | rfl | (simp only [wrap_wrap]; done) | (simp only [wrap_wrap]; rfl) | (simp [errW_none, errW_some] <;> rfl) | (simp [*, errW_none, errW_some] <;> rfl), by repeat (first | (with_reducible first | exact HB.out | apply below_alloc | apply pw_below_drewN | apply below_drew1) | exact HB.out)⟩

end Go.Proofs.Ytdlbmajilmmapaa.F
