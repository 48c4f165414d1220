-- Made by a program of this session (wip/tools/pr.py over the kit's printer). Not trusted: Lean checks it.
import Derived.Test.YtdlbmajilmmapaaFx
import Derived.Test.YtdlbmajilmmapaaF18
import Derived.Test.YtdlbmajilmmapaaF20
import Derived.Test.YtdlbmajilmmapaaE30
namespace Go.Proofs.Ytdlbmajilmmapaa.F
open Go.RowKit Go.Proofs.YtdlbmajilmmapaaW.PrintWords Go.Proofs.YtdlbmajilmmapaaW.PrintLast Go.Proofs.YtdlbmajilmmapaaW.PrintMore
attribute [local go_sem] max2_int min2_int max_two min_two max_three min_three max_four min_four
set_option linter.unusedVariables false
set_option linter.unusedSimpArgs false

attribute [local go_sem high] eqA30
/-! ### runnellaw19_CheckLabels: function 5 -/
mutual
def runnellaw19_CheckLabels.l0 : Nat → List Int → List ByteArray → List ByteArray → Int → Int → Option (Bool)
  | 0, _, _, _, _, _ => none
  | k + 1, x1, x5, x19, x20, x21 => if x21 < x20 then (if 0 ≤ x21 then (if x21 < (x19.length : Int) then (if 0 ≤ (mn ((rdOf ByteArray.empty x19 x21).size : Int) 32) then (if (mn ((rdOf ByteArray.empty x19 x21).size : Int) 32) ≤ ((rdOf ByteArray.empty x19 x21).size : Int) then (runnellaw19_CheckLabels.l1 k x1 x5 ((rdOf ByteArray.empty x19 x21).extract 0 ((mn ((rdOf ByteArray.empty x19 x21).size : Int) 32) : Int).toNat) (((rdOf ByteArray.empty x19 x21).extract 0 ((mn ((rdOf ByteArray.empty x19 x21).size : Int) 32) : Int).toNat).toList == ([] : List UInt8)) x19 x20 x21 x5 (x5.length : Int) 0) else (none)) else (none)) else (none)) else (none)) else (if (x5.length : Int) = 0 then (some true) else (runnellaw19_CheckLabels.l2 k x5 ([] : List (S27)) x1 (x1.length : Int) 0))
def runnellaw19_CheckLabels.l1 : Nat → List Int → List ByteArray → ByteArray → Bool → List ByteArray → Int → Int → List ByteArray → Int → Int → Option (Bool)
  | 0, _, _, _, _, _, _, _, _, _, _ => none
  | k + 1, x1, x5, x7, x8, x19, x20, x21, x32, x33, x34 => if x34 < x33 then (if 0 ≤ x34 then (if x34 < (x32.length : Int) then (if x8 = true then (runnellaw19_CheckLabels.l1 k x1 x5 x7 true x19 x20 x21 x32 x33 (wrap64 (x34 + 1))) else (runnellaw19_CheckLabels.l1 k x1 x5 x7 ((rdOf ByteArray.empty x32 x34).toList == x7.toList) x19 x20 x21 x32 x33 (wrap64 (x34 + 1)))) else (none)) else (none)) else (if x8 = true then (runnellaw19_CheckLabels.l0 k x1 x5 x19 x20 (wrap64 (x21 + 1))) else (if (x5.length : Int) < 10 then (if x5.length < 8796093022208 then (runnellaw19_CheckLabels.l0 k x1 (x5 ++ [x7]) x19 x20 (wrap64 (x21 + 1))) else (none)) else (runnellaw19_CheckLabels.l0 k x1 x5 x19 x20 (wrap64 (x21 + 1)))))
def runnellaw19_CheckLabels.l2 : Nat → List ByteArray → List (S27) → List Int → Int → Int → Option (Bool)
  | 0, _, _, _, _, _ => none
  | k + 1, x5, x11, x60, x61, x62 => if x62 < x61 then (if 0 ≤ x62 then (if x62 < (x60.length : Int) then (if 0 ≤ (Int.tmod (rd x60 x62) 2) then (if (Int.tmod (rd x60 x62) 2) < 2 then (if (x5.length : Int) = 0 then (none) else (if 0 ≤ (Int.tmod (wrap64 (rd x60 x62)) (x5.length : Int)) then (if (Int.tmod (wrap64 (rd x60 x62)) (x5.length : Int)) < (x5.length : Int) then (if x11.length < 651562446089 then (runnellaw19_CheckLabels.l2 k x5 (x11 ++ [(⟨x62, (⟨0, 0, (⟨#[]⟩ : ByteArray)⟩ : S24), (⟨0, 0, (⟨#[]⟩ : ByteArray)⟩ : S24), false, bt (⟨#[98, 116]⟩ : ByteArray) (Int.tmod (rd x60 x62) 2), rdOf ByteArray.empty x5 (Int.tmod (wrap64 (rd x60 x62)) (x5.length : Int)), (⟨#[]⟩ : ByteArray), (⟨#[]⟩ : ByteArray), (⟨#[]⟩ : ByteArray), ([] : List (S117)), 0, false, false, (⟨#[]⟩ : ByteArray), (⟨#[]⟩ : ByteArray)⟩ : S27)]) x60 x61 (wrap64 (x62 + 1))) else (none)) else (none)) else (none))) else (none)) else (none)) else (none)) else (none)) else ((check_Check.f x11).bind fun bt204 => (if ((decide ((x11.length : Int) > 0)) != (bt204.1 == 22 && (bt204.2 == 0))) = true then (some false) else (runnellaw19_CheckLabels.l3 k x5 x11 x5 (x5.length : Int) 0)))
def runnellaw19_CheckLabels.l3 : Nat → List ByteArray → List (S27) → List ByteArray → Int → Int → Option (Bool)
  | 0, _, _, _, _, _ => none
  | k + 1, x5, x11, x92, x93, x94 => if x94 < x93 then (if 0 ≤ x94 then (if x94 < (x92.length : Int) then (if x11.length < 651562446089 then (runnellaw19_CheckLabels.l3 k x5 (x11 ++ [(⟨wrap64 (1000 + x94), (⟨0, 0, (⟨#[]⟩ : ByteArray)⟩ : S24), (⟨0, 0, (⟨#[]⟩ : ByteArray)⟩ : S24), false, 58, rdOf ByteArray.empty x92 x94, (⟨#[]⟩ : ByteArray), (⟨#[]⟩ : ByteArray), (⟨#[]⟩ : ByteArray), ([] : List (S117)), 0, false, false, (⟨#[]⟩ : ByteArray), (⟨#[]⟩ : ByteArray)⟩ : S27)]) x92 x93 (wrap64 (x94 + 1))) else (none)) else (none)) else (none)) else (if ([] : List (S27)).length + x11.length < 651562446089 then ((some (([] : List (S27)) ++ x11 : List (S27))).bind fun y210 => (if 0 < (x5.length : Int) then (if y210.length < 651562446089 then ((check_Check.f x11).bind fun bt217 => (if (bt217.1 == 0 && (bt217.2 == 0)) = true then ((check_Check.f (y210 ++ [(⟨5, (⟨0, 0, (⟨#[]⟩ : ByteArray)⟩ : S24), (⟨0, 0, (⟨#[]⟩ : ByteArray)⟩ : S24), false, 58, rdOf ByteArray.empty x5 0, (⟨#[]⟩ : ByteArray), (⟨#[]⟩ : ByteArray), (⟨#[]⟩ : ByteArray), ([] : List (S117)), 0, false, false, (⟨#[]⟩ : ByteArray), (⟨#[]⟩ : ByteArray)⟩ : S27)])).bind fun bt219 => (some (bt219.1 == 22 && (bt219.2 == 5)))) else (some false))) else (none)) else (none))) else (none))
end
def runnellaw19_CheckLabels.f (k : Nat) (l0 : List ByteArray) (l1 : List Int) : Option (Bool) := (runnellaw19_awake.f).bind fun t193 => (if t193 = true then (runnellaw19_CheckLabels.l0 k l1 ([] : List ByteArray) l0 (l0.length : Int) 0) else (some false))
theorem runnellaw19_CheckLabels.mono_l : ∀ k, (∀ y0 y1 y2 y3 y4, LeO (runnellaw19_CheckLabels.l0 k y0 y1 y2 y3 y4) (runnellaw19_CheckLabels.l0 (k + 1) y0 y1 y2 y3 y4)) ∧ (∀ y0 y1 y2 y3 y4 y5 y6 y7 y8 y9, LeO (runnellaw19_CheckLabels.l1 k y0 y1 y2 y3 y4 y5 y6 y7 y8 y9) (runnellaw19_CheckLabels.l1 (k + 1) y0 y1 y2 y3 y4 y5 y6 y7 y8 y9)) ∧ (∀ y0 y1 y2 y3 y4, LeO (runnellaw19_CheckLabels.l2 k y0 y1 y2 y3 y4) (runnellaw19_CheckLabels.l2 (k + 1) y0 y1 y2 y3 y4)) ∧ (∀ y0 y1 y2 y3 y4, LeO (runnellaw19_CheckLabels.l3 k y0 y1 y2 y3 y4) (runnellaw19_CheckLabels.l3 (k + 1) y0 y1 y2 y3 y4))
  | 0 => ⟨fun _ _ _ _ _ r h => by simp [runnellaw19_CheckLabels.l0] at h, fun _ _ _ _ _ _ _ _ _ _ r h => by simp [runnellaw19_CheckLabels.l1] at h, fun _ _ _ _ _ r h => by simp [runnellaw19_CheckLabels.l2] at h, fun _ _ _ _ _ r h => by simp [runnellaw19_CheckLabels.l3] at h⟩
  | k + 1 => by
    obtain ⟨ih0, ih1, ih2, ih3⟩ := runnellaw19_CheckLabels.mono_l k
    refine ⟨?_, ?_, ?_, ?_⟩
    · intro y0 y1 y2 y3 y4
      unfold runnellaw19_CheckLabels.l0
      repeat' first
      | (with_reducible exact ih0 _ _ _ _ _)
      | (with_reducible exact ih1 _ _ _ _ _ _ _ _ _ _)
      | (with_reducible exact ih2 _ _ _ _ _)
      | (with_reducible exact ih3 _ _ _ _ _)
      | (with_reducible exact LeO.refl _)
      | (with_reducible exact LeO.none _)
      | (with_reducible refine LeO.ite ?_ ?_)
      | (with_reducible refine LeO.bind ?_ (fun _ => ?_))
      | exact ih0 _ _ _ _ _
      | exact ih1 _ _ _ _ _ _ _ _ _ _
      | exact ih2 _ _ _ _ _
      | exact ih3 _ _ _ _ _
      | exact LeO.none _
      | refine LeO.ite ?_ ?_
      | refine LeO.bind ?_ (fun _ => ?_)
    · intro y0 y1 y2 y3 y4 y5 y6 y7 y8 y9
      unfold runnellaw19_CheckLabels.l1
      repeat' first
      | (with_reducible exact ih0 _ _ _ _ _)
      | (with_reducible exact ih1 _ _ _ _ _ _ _ _ _ _)
      | (with_reducible exact ih2 _ _ _ _ _)
      | (with_reducible exact ih3 _ _ _ _ _)
      | (with_reducible exact LeO.refl _)
      | (with_reducible exact LeO.none _)
      | (with_reducible refine LeO.ite ?_ ?_)
      | (with_reducible refine LeO.bind ?_ (fun _ => ?_))
      | exact ih0 _ _ _ _ _
      | exact ih1 _ _ _ _ _ _ _ _ _ _
      | exact ih2 _ _ _ _ _
      | exact ih3 _ _ _ _ _
      | exact LeO.none _
      | refine LeO.ite ?_ ?_
      | refine LeO.bind ?_ (fun _ => ?_)
    · intro y0 y1 y2 y3 y4
      unfold runnellaw19_CheckLabels.l2
      repeat' first
      | (with_reducible exact ih0 _ _ _ _ _)
      | (with_reducible exact ih1 _ _ _ _ _ _ _ _ _ _)
      | (with_reducible exact ih2 _ _ _ _ _)
      | (with_reducible exact ih3 _ _ _ _ _)
      | (with_reducible exact LeO.refl _)
      | (with_reducible exact LeO.none _)
      | (with_reducible refine LeO.ite ?_ ?_)
      | (with_reducible refine LeO.bind ?_ (fun _ => ?_))
      | exact ih0 _ _ _ _ _
      | exact ih1 _ _ _ _ _ _ _ _ _ _
      | exact ih2 _ _ _ _ _
      | exact ih3 _ _ _ _ _
      | exact LeO.none _
      | refine LeO.ite ?_ ?_
      | refine LeO.bind ?_ (fun _ => ?_)
    · intro y0 y1 y2 y3 y4
      unfold runnellaw19_CheckLabels.l3
      repeat' first
      | (with_reducible exact ih0 _ _ _ _ _)
      | (with_reducible exact ih1 _ _ _ _ _ _ _ _ _ _)
      | (with_reducible exact ih2 _ _ _ _ _)
      | (with_reducible exact ih3 _ _ _ _ _)
      | (with_reducible exact LeO.refl _)
      | (with_reducible exact LeO.none _)
      | (with_reducible refine LeO.ite ?_ ?_)
      | (with_reducible refine LeO.bind ?_ (fun _ => ?_))
      | exact ih0 _ _ _ _ _
      | exact ih1 _ _ _ _ _ _ _ _ _ _
      | exact ih2 _ _ _ _ _
      | exact ih3 _ _ _ _ _
      | exact LeO.none _
      | refine LeO.ite ?_ ?_
      | refine LeO.bind ?_ (fun _ => ?_)
theorem runnellaw19_CheckLabels.mono : ∀ a0 a1 k, LeO (runnellaw19_CheckLabels.f k a0 a1) (runnellaw19_CheckLabels.f (k + 1) a0 a1) := by
  intro a0 a1 k
  obtain ⟨ih0, ih1, ih2, ih3⟩ := runnellaw19_CheckLabels.mono_l k
  unfold runnellaw19_CheckLabels.f
  repeat' first
      | (with_reducible exact ih0 _ _ _ _ _)
      | (with_reducible exact ih1 _ _ _ _ _ _ _ _ _ _)
      | (with_reducible exact ih2 _ _ _ _ _)
      | (with_reducible exact ih3 _ _ _ _ _)
      | (with_reducible exact LeO.refl _)
      | (with_reducible exact LeO.none _)
      | (with_reducible refine LeO.ite ?_ ?_)
      | (with_reducible refine LeO.bind ?_ (fun _ => ?_))
      | exact ih0 _ _ _ _ _
      | exact ih1 _ _ _ _ _ _ _ _ _ _
      | exact ih2 _ _ _ _ _
      | exact ih3 _ _ _ _ _
      | exact LeO.none _
      | refine LeO.ite ?_ ?_
      | refine LeO.bind ?_ (fun _ => ?_)
def runnellaw19_CheckLabels.T23 : Bool × List (List Nat × List Nat) := (true, [([], []), ([], []), ([1], [1]), ([2], [2]), ([], []), ([], []), ([5], [5]), ([], []), ([7], [7]), ([6, 8], [6, 8]), ([4, 9], [4, 9]), ([10], [10]), ([], []), ([3, 11, 12], [3, 11, 12]), ([13], [13]), ([0, 14], [0, 14]), ([15, 15, 0, 1, 2, 3, 4, 5, 6, 7, 8, 9, 10, 11, 12, 13, 14, 15], [0, 15])])
def runnellaw19_CheckLabels.B23 : List Nat := [0, 0, 2, 6, 0, 0, 32, 0, 128, 480, 1008, 2032, 0, 8190, 16382, 32767, 65535]
theorem runnellaw19_CheckLabels.tab23 : rtab .any (opsOf Try.f5 23) = runnellaw19_CheckLabels.T23 := by kernel_rfl
theorem runnellaw19_CheckLabels.bits23 : waitsOk runnellaw19_CheckLabels.T23.2 runnellaw19_CheckLabels.B23 = true := by kernel_rfl
set_option maxHeartbeats 8000000 in
set_option maxRecDepth 100000 in
theorem runnellaw19_CheckLabels.calls (k : Nat) (A0 : Option Addr) (c0 : Nat) (l0 : List ByteArray) (A1 : Option Addr) (c1 : Nat) (l1 : List Int) (r : Bool) (w : World) (hr0 : Kd.C Kd.string w A0 l0.length l0) (hc0 : l0.length ≤ c0) (hr1 : Kd.C (Kd.int .u8) w A1 l1.length l1) (hc1 : l1.length ≤ c1) (h : runnellaw19_CheckLabels.f k l0 l1 = some r) :
    Calls Try.prog 5 #[.slice A0 l0.length c0, .slice A1 l1.length c1] w fun e w' => e = .returned (.bool r) ∧ Below w.heap.size w w' := by
  have hu27 := Try.underlying27
  have hu30 := Try.underlying30
  have HR0 := Aside0.mk hr0
  have HC0 := Aside0.mk hc0
  clear hr0 hc0
  have HR1 := Aside0.mk hr1
  have HC1 := Aside0.mk hc1
  clear hr1 hc1
  have HB := Aside0.mk (Below.refl w.heap.size w)
  have H : ((runnellaw19_awake.f).bind fun t193 => (if t193 = true then (runnellaw19_CheckLabels.l0 k l1 ([] : List ByteArray) l0 (l0.length : Int) 0) else (some false))) = some r := h
  clear h
  replace H := Option.bind_eq_some_iff.mp H
  obtain ⟨t193, A30, H⟩ := H
  replace H : (if t193 = true then (runnellaw19_CheckLabels.l0 k l1 ([] : List ByteArray) l0 (l0.length : Int) 0) else (some false)) = some r := H
  have A3 := Aside0.mk A30
  clear A30
  by_cases c4 : t193 = true
  · subst c4
    have H1 : (runnellaw19_CheckLabels.l0 k l1 ([] : List ByteArray) l0 (l0.length : Int) 0) = some r := by rw [if_pos rfl] at H; exact H
    clear H
    have H := H1
    clear H1
    have H' := Aside0.mk H
    clear H
    go_enter Try.func5, Try.ntmps5
    go_wp2_with (first | ((with_reducible refine gate_callee (f := 20) rfl ?_); refine goesL_ (some 17) rfl rfl Try.func20 (by kernel_rfl) rfl #[] rfl (by (try simp only [List.map_toArray, List.map_cons, List.map_nil]); first | done | rfl | (simp only [List.length_drop, List.length_take]; rfl)) ?_; (with_reducible refine (runnellaw19_awake.calls  true _ A3.out).mono ?_); rintro e w5 ⟨rfl, hb⟩; refine ⟨_, rfl, ?_⟩; have n0_ := Aside0.mk (below_step (by repeat (first | (with_reducible first | exact HB.out | apply below_alloc | apply pw_below_drewN | apply below_drew1) | exact HB.out)) hb); clear HB; have HB := n0_; clear n0_; (try clear hb); (try clear hb2); (try clear hk); (try clear hi)))
    go_loopg [5, 21] k (fun kq v5 v21 w' => ∃ (x5_1 : List ByteArray) (x21_1 : Int), v21 = .int .i64 x21_1 ∧ Aside0 (runnellaw19_CheckLabels.l0 kq l1 x5_1 l0 (l0.length : Int) x21_1 = some r) ∧ Aside0 (kq ≤ k) ∧ Aside0 (Kd.R Kd.string 9 w' w.heap.size (fun _ => True) v5 x5_1) ∧ Aside0 (Below w.heap.size w w'))
    case atStart => exact ⟨(([] : List ByteArray)), (0), (by first | rfl | (simp; done) | (simp [*]; done)), H', ⟨Nat.le_refl _⟩, ⟨by first | exact Kd.R_nil _ _ _ _ _ | exact Kd.N_nil _ _ _ _ _ | exact Kd.V_nil _ _ _ _ _ | exact Kd.Q_nil _ _ _ _ _ | exact Kd.S_nil _ _ _ _ _⟩, ⟨by repeat (first | (with_reducible first | exact HB.out | apply below_alloc | apply pw_below_drewN | apply below_drew1) | exact HB.out)⟩⟩
    case round =>
      clear H'
      try clear c1
      try clear c2
      try clear p2
      try clear c4
      try clear c5
      obtain ⟨x5_1, x21_1, rfl, HA, HK1, HO_5, HB⟩ := hrel
      cases gk with
      | zero => exact absurd HA.out (by simp [runnellaw19_CheckLabels.l0])
      | succ k1 =>
        have H := HA.out
        clear HA
        simp only [runnellaw19_CheckLabels.l0] at H
        by_cases c6 : x21_1 < (l0.length : Int)
        · rw [if_pos c6] at H
          have c6b0 : decide (x21_1 < (l0.length : Int)) = true := decide_eq_true c6
          clear c6
          by_cases c7 : 0 ≤ x21_1
          · rw [if_pos c7] at H
            have c7b0 : decide (0 ≤ x21_1) = true := decide_eq_true c7
            clear c7
            by_cases c8 : x21_1 < (l0.length : Int)
            · rw [if_pos c8] at H
              have c8b0 : decide (x21_1 < (l0.length : Int)) = true := decide_eq_true c8
              clear c8
              obtain ⟨ji9, hji9⟩ : ∃ j_ : Int, (mn ((rdOf ByteArray.empty l0 x21_1).size : Int) 32) = j_ := ⟨_, rfl⟩
              replace H : (if 0 ≤ (ji9) then (if (ji9) ≤ ((rdOf ByteArray.empty l0 x21_1).size : Int) then (runnellaw19_CheckLabels.l1 k1 l1 x5_1 ((rdOf ByteArray.empty l0 x21_1).extract 0 ((ji9) : Int).toNat) (((rdOf ByteArray.empty l0 x21_1).extract 0 ((ji9) : Int).toNat).toList == ([] : List UInt8)) l0 (l0.length : Int) x21_1 x5_1 (x5_1.length : Int) 0) else (none)) else (none)) = some r := by first | (rw [hji9] at H; exact H) | (simp only [hji9] at H ⊢; exact H)
              have hji9_ : (if 32 < ((rdOf ByteArray.empty l0 x21_1).size : Int) then 32 else ((rdOf ByteArray.empty l0 x21_1).size : Int)) = ji9 := hji9
              by_cases c10 : 0 ≤ (ji9)
              · rw [if_pos c10] at H
                have c10b0 := eq_true c10
                have c10b1 : decide (0 ≤ (ji9)) = true := decide_eq_true c10
                clear c10
                by_cases c11 : (ji9) ≤ ((rdOf ByteArray.empty l0 x21_1).size : Int)
                · rw [if_pos c11] at H
                  have c11b0 := eq_true c11
                  have c11b1 : decide ((ji9) ≤ ((rdOf ByteArray.empty l0 x21_1).size : Int)) = true := decide_eq_true c11
                  clear c11
                  have H' := Aside0.mk H
                  clear H
                  have p194 : 0 ≤ (x21_1 : Int) := of_decide_eq_true (by first | (with_reducible assumption) | assumption)
                  have q194 : x21_1 < (l0.length : Int) := of_decide_eq_true (by first | (with_reducible assumption) | assumption)
                  obtain ⟨ad194, e194, hx194_0⟩ := Kd.at_string HR0.out x21_1 p194 q194
                  cases e194
                  replace hx194_0 := (HB.out.cell (World.block_lt_of_cell? w _ hx194_0)).trans hx194_0
                  replace p194 := eq_true p194
                  replace q194 := eq_true q194
                  obtain ⟨Ao12, co12, eo12⟩ := Kd.R_slice HO_5.out
                  subst eo12
                  go_wp2
                  go_loopg [8, 34] k1 (fun kq v8 v34 w' => ∃ (x8_2 : Bool) (x34_2 : Int), v8 = .bool x8_2 ∧ v34 = .int .i64 x34_2 ∧ Aside0 (runnellaw19_CheckLabels.l1 kq l1 x5_1 ((rdOf ByteArray.empty l0 x21_1).extract 0 ((ji9) : Int).toNat) x8_2 l0 (l0.length : Int) x21_1 x5_1 (x5_1.length : Int) x34_2 = some r) ∧ Aside0 (kq ≤ k1) ∧ Aside0 (Kd.R Kd.string 9 w' w.heap.size (fun _ => True) (.slice Ao12 x5_1.length co12) x5_1) ∧ Aside0 (Kd.R Kd.string 9 w' w.heap.size (fun _ => True) (.slice Ao12 x5_1.length co12) x5_1) ∧ Aside0 (Below w.heap.size w w'))
                  case atStart => exact ⟨((((rdOf ByteArray.empty l0 x21_1).extract 0 ((ji9) : Int).toNat).toList == ([] : List UInt8))), (0), (by first | rfl | (simp; done) | (simp only [← hji9] <;> (first | rfl | simp)) | (simp [*]; done)), (by first | rfl | (simp; done) | (simp [*]; done)), H', ⟨Nat.le_refl _⟩, ⟨by (with_reducible repeat (first | apply Kd.R_alloc | apply Kd.R_drewN | apply Kd.R_drew)); exact HO_5.out⟩, ⟨by (with_reducible repeat (first | apply Kd.R_alloc | apply Kd.R_drewN | apply Kd.R_drew)); exact HO_5.out⟩, ⟨by repeat (first | (with_reducible first | exact HB.out | apply below_alloc | apply pw_below_drewN | apply below_drew1) | exact HB.out)⟩⟩
                  case round =>
                    clear H'
                    try clear c1
                    try clear p1
                    try clear q1
                    try clear hx1
                    try clear c2
                    try clear p2
                    try clear c4
                    try clear c5
                    try clear c6
                    try clear c6b0
                    try clear c7
                    try clear c7b0
                    try clear c8
                    try clear c8b0
                    try clear c10
                    try clear c10b0
                    try clear c10b1
                    try clear c11
                    try clear c11b0
                    try clear c11b1
                    try clear hx194_0
                    try clear p194
                    try clear p2
                    try clear q194
                    obtain ⟨x8_2, x34_2, rfl, rfl, HA, HK2, HO_5, HO_32, HB⟩ := hrel
                    cases gk with
                    | zero => exact absurd HA.out (by simp [runnellaw19_CheckLabels.l1])
                    | succ k2 =>
                      have H := HA.out
                      clear HA
                      simp only [runnellaw19_CheckLabels.l1] at H
                      by_cases c13 : x34_2 < (x5_1.length : Int)
                      · rw [if_pos c13] at H
                        have c13b0 : decide (x34_2 < (x5_1.length : Int)) = true := decide_eq_true c13
                        clear c13
                        by_cases c14 : 0 ≤ x34_2
                        · rw [if_pos c14] at H
                          have c14b0 : decide (0 ≤ x34_2) = true := decide_eq_true c14
                          clear c14
                          by_cases c15 : x34_2 < (x5_1.length : Int)
                          · rw [if_pos c15] at H
                            have c15b0 : decide (x34_2 < (x5_1.length : Int)) = true := decide_eq_true c15
                            clear c15
                            by_cases c16 : x8_2 = true
                            · subst c16
                              have H1 : (runnellaw19_CheckLabels.l1 k2 l1 x5_1 ((rdOf ByteArray.empty l0 x21_1).extract 0 ((ji9) : Int).toNat) true l0 (l0.length : Int) x21_1 x5_1 (x5_1.length : Int) (wrap64 (x34_2 + 1))) = some r := by rw [if_pos rfl] at H; exact H
                              clear H
                              have H := H1
                              clear H1
                              have H' := Aside0.mk H
                              clear H
                              have p195 : 0 ≤ (x34_2 : Int) := of_decide_eq_true (by first | (with_reducible assumption) | assumption)
                              have q195 : x34_2 < (x5_1.length : Int) := of_decide_eq_true (by first | (with_reducible assumption) | assumption)
                              obtain ⟨ad195, e195, hx195_0⟩ := Kd.at_string (Kd.R_reads' HO_32.out).2.2 x34_2 p195 q195
                              cases e195
                              replace p195 := eq_true p195
                              replace q195 := eq_true q195
                              go_wp2
                              go_roundg k2
                              case measure => have := HK1.out; have := HK2.out; omega
                              case rel => exact ⟨(true), (wrap64 (x34_2 + 1)), (by first | rfl | (simp; done) | (simp [*]; done)), (by first | rfl | (simp; done) | (simp [*]; done)), (by first | exact H' | (simp only [hji9]; exact H')), ⟨by have := HK1.out; have := HK2.out; omega⟩, ⟨by (with_reducible repeat (first | apply Kd.R_alloc | apply Kd.R_drewN | apply Kd.R_drew)); exact HO_5.out⟩, ⟨by (with_reducible repeat (first | apply Kd.R_alloc | apply Kd.R_drewN | apply Kd.R_drew)); exact HO_32.out⟩, ⟨by repeat (first | (with_reducible first | exact HB.out | apply below_alloc | apply pw_below_drewN | apply below_drew1) | exact HB.out)⟩⟩
                            · replace c16 := Bool.eq_false_iff.mpr c16
                              subst c16
                              have H1 : (runnellaw19_CheckLabels.l1 k2 l1 x5_1 ((rdOf ByteArray.empty l0 x21_1).extract 0 ((ji9) : Int).toNat) ((rdOf ByteArray.empty x5_1 x34_2).toList == ((rdOf ByteArray.empty l0 x21_1).extract 0 ((ji9) : Int).toNat).toList) l0 (l0.length : Int) x21_1 x5_1 (x5_1.length : Int) (wrap64 (x34_2 + 1))) = some r := by rw [if_neg (show ¬ (false = true) by decide)] at H; exact H
                              clear H
                              have H := H1
                              clear H1
                              have H' := Aside0.mk H
                              clear H
                              have p195 : 0 ≤ (x34_2 : Int) := of_decide_eq_true (by first | (with_reducible assumption) | assumption)
                              have q195 : x34_2 < (x5_1.length : Int) := of_decide_eq_true (by first | (with_reducible assumption) | assumption)
                              obtain ⟨ad195, e195, hx195_0⟩ := Kd.at_string (Kd.R_reads' HO_32.out).2.2 x34_2 p195 q195
                              cases e195
                              replace p195 := eq_true p195
                              replace q195 := eq_true q195
                              go_wp2
                              go_roundg k2
                              case measure => have := HK1.out; have := HK2.out; omega
                              case rel => exact ⟨(((rdOf ByteArray.empty x5_1 x34_2).toList == ((rdOf ByteArray.empty l0 x21_1).extract 0 ((ji9) : Int).toNat).toList)), (wrap64 (x34_2 + 1)), (by first | rfl | (simp; done) | (simp only [← hji9] <;> (first | rfl | simp)) | (simp [*]; done)), (by first | rfl | (simp; done) | (simp [*]; done)), (by first | exact H' | (simp only [hji9]; exact H')), ⟨by have := HK1.out; have := HK2.out; omega⟩, ⟨by (with_reducible repeat (first | apply Kd.R_alloc | apply Kd.R_drewN | apply Kd.R_drew)); exact HO_5.out⟩, ⟨by (with_reducible repeat (first | apply Kd.R_alloc | apply Kd.R_drewN | apply Kd.R_drew)); exact HO_32.out⟩, ⟨by repeat (first | (with_reducible first | exact HB.out | apply below_alloc | apply pw_below_drewN | apply below_drew1) | exact HB.out)⟩⟩
                          · rw [if_neg c15] at H
                            exact absurd H (by simp)
                        · rw [if_neg c14] at H
                          exact absurd H (by simp)
                      · rw [if_neg c13] at H
                        have c13b0 : decide (x34_2 < (x5_1.length : Int)) = false := decide_eq_false c13
                        clear c13
                        by_cases c17 : x8_2 = true
                        · subst c17
                          have H1 : (runnellaw19_CheckLabels.l0 k2 l1 x5_1 l0 (l0.length : Int) (wrap64 (x21_1 + 1))) = some r := by rw [if_pos rfl] at H; exact H
                          clear H
                          have H := H1
                          clear H1
                          have H' := Aside0.mk H
                          clear H
                          go_wp2
                          go_roundg k2
                          case measure => have := HK1.out; have := HK2.out; omega
                          case rel => exact ⟨(x5_1), (wrap64 (x21_1 + 1)), (by first | rfl | (simp; done) | (simp [*]; done)), (by first | exact H' | (simp only [hji9]; exact H')), ⟨by have := HK1.out; have := HK2.out; omega⟩, ⟨by (with_reducible repeat (first | apply Kd.R_alloc | apply Kd.R_drewN | apply Kd.R_drew)); exact HO_5.out⟩, ⟨by repeat (first | (with_reducible first | exact HB.out | apply below_alloc | apply pw_below_drewN | apply below_drew1) | exact HB.out)⟩⟩
                        · replace c17 := Bool.eq_false_iff.mpr c17
                          subst c17
                          have H1 : (if (x5_1.length : Int) < 10 then (if x5_1.length < 8796093022208 then (runnellaw19_CheckLabels.l0 k2 l1 (x5_1 ++ [((rdOf ByteArray.empty l0 x21_1).extract 0 ((ji9) : Int).toNat)]) l0 (l0.length : Int) (wrap64 (x21_1 + 1))) else (none)) else (runnellaw19_CheckLabels.l0 k2 l1 x5_1 l0 (l0.length : Int) (wrap64 (x21_1 + 1)))) = some r := by rw [if_neg (show ¬ (false = true) by decide)] at H; exact H
                          clear H
                          have H := H1
                          clear H1
                          by_cases c18 : (x5_1.length : Int) < 10
                          · rw [if_pos c18] at H
                            have c18b0 : decide ((x5_1.length : Int) < 10) = true := decide_eq_true c18
                            have c18b1 : decide (x5_1.length < 10) = true := decide_eq_true (by omega)
                            clear c18
                            by_cases c19 : x5_1.length < 8796093022208
                            · rw [if_pos c19] at H
                              have LMc19 := Aside0.mk c19
                              clear c19
                              obtain ⟨y196, hy196⟩ : ∃ y_ : List ByteArray, y_ = (x5_1 ++ [((rdOf ByteArray.empty l0 x21_1).extract 0 ((ji9) : Int).toNat)]) := ⟨_, rfl⟩
                              replace H : (runnellaw19_CheckLabels.l0 k2 l1 y196 l0 (l0.length : Int) (wrap64 (x21_1 + 1))) = some r := by first | (rw [hy196]; with_reducible exact H) | (have H2_ := (Option.bind_some _ _).symm.trans H; rw [hy196]; with_reducible exact H2_) | (have H2_ := (Option.bind_some _ _).symm.trans H; with_reducible exact H2_) | with_reducible exact H | (rw [hy196]; exact H) | exact H
                              have Ny196 := Aside0.mk hy196
                              clear hy196
                              have H' := Aside0.mk H
                              clear H
                              go_wp2_with (first | ((with_reducible refine gate_builtin (b := .append) (xs := #[.tmp 52, .tmp 54]) rfl ?_); (try (refine gate_guard (by rfl) ?_; dsimp only)); at_builtin; refine Kd.R_append Kd.string (w0 := w) w.heap.size rfl (.tmp 52) (.tmp 54) 38 9 (.string ⟨#[]⟩) 16 rfl Try.underlying38 info9 rfl (by decide) (by omega) (.slice Ao12 x5_1.length co12) x5_1 ((rdOf ByteArray.empty l0 x21_1).extract 0 ((ji9) : Int).toNat) [.string ((rdOf ByteArray.empty l0 x21_1).extract 0 ((ji9) : Int).toNat)] (fun _ => True) (fun _ => False) rfl rfl ?aP (fun _ hk => hk.elim) ?aF ?aO ?aB ?aS ?aL ?_; (case aP => exact rfl); (case aB => exact (by repeat (first | (with_reducible first | exact HB.out | apply below_alloc | apply pw_below_drewN | apply below_drew1) | exact HB.out))); (case aF => exact (fun _ _ => trivial)); (case aO => exact (by (with_reducible repeat (first | apply Kd.R_alloc | apply Kd.R_drewN | apply Kd.R_drew)); exact HO_5.out)); (case aS => exact (below_size (by repeat (first | (with_reducible first | exact HB.out | apply below_alloc | apply pw_below_drewN | apply below_drew1) | exact HB.out)))); (case aL => have := LMc19.out; omega); intro v197 w20 ho hb hg hat; rw [← Ny196.out] at ho; have n0_ := Aside0.mk (hb); have n1_ := Aside0.mk (ho); clear HB; clear HO_5; have HB := n0_; have HO198 := n1_; clear n0_ n1_; clear ho hb hg hat))
                              go_roundg k2
                              case measure => have := HK1.out; have := HK2.out; omega
                              case rel => exact ⟨(y196), (wrap64 (x21_1 + 1)), (by first | rfl | (simp; done) | (simp [*]; done)), (by first | exact H' | (simp only [hji9]; exact H')), ⟨by have := HK1.out; have := HK2.out; omega⟩, ⟨by (with_reducible repeat (first | apply Kd.R_alloc | apply Kd.R_drewN | apply Kd.R_drew)); exact HO198.out⟩, ⟨by repeat (first | (with_reducible first | exact HB.out | apply below_alloc | apply pw_below_drewN | apply below_drew1) | exact HB.out)⟩⟩
                            · rw [if_neg c19] at H
                              exact absurd H (by simp)
                          · rw [if_neg c18] at H
                            have c18b0 : decide ((x5_1.length : Int) < 10) = false := decide_eq_false c18
                            have c18b1 : decide (x5_1.length < 10) = false := decide_eq_false (by omega)
                            clear c18
                            have H' := Aside0.mk H
                            clear H
                            go_wp2
                            go_roundg k2
                            case measure => have := HK1.out; have := HK2.out; omega
                            case rel => exact ⟨(x5_1), (wrap64 (x21_1 + 1)), (by first | rfl | (simp; done) | (simp [*]; done)), (by first | exact H' | (simp only [hji9]; exact H')), ⟨by have := HK1.out; have := HK2.out; omega⟩, ⟨by (with_reducible repeat (first | apply Kd.R_alloc | apply Kd.R_drewN | apply Kd.R_drew)); exact HO_5.out⟩, ⟨by repeat (first | (with_reducible first | exact HB.out | apply below_alloc | apply pw_below_drewN | apply below_drew1) | exact HB.out)⟩⟩
                · rw [if_neg c11] at H
                  exact absurd H (by simp)
              · rw [if_neg c10] at H
                exact absurd H (by simp)
            · rw [if_neg c8] at H
              exact absurd H (by simp)
          · rw [if_neg c7] at H
            exact absurd H (by simp)
        · rw [if_neg c6] at H
          have c6b0 : decide (x21_1 < (l0.length : Int)) = false := decide_eq_false c6
          clear c6
          by_cases c21 : (x5_1.length : Int) = 0
          · rw [if_pos c21] at H
            have c21b0 : ((x5_1.length : Int) == 0) = true := beq_iff_eq.mpr c21
            have c21b1 : ((x5_1.length : Int) != 0) = false := bne_eq_false_iff_eq.mpr c21
            clear c21
            obtain rfl := Option.some.inj H
            obtain ⟨Ao22, co22, eo22⟩ := Kd.R_slice HO_5.out
            subst eo22
            go_wp2
            go_ret
            exact ⟨by first | rfl | (simp only [wrap_wrap]; done) | (simp only [wrap_wrap]; rfl) | (simp [errW_none, errW_some] <;> rfl) | (simp [*, errW_none, errW_some] <;> rfl), by repeat (first | (with_reducible first | exact HB.out | apply below_alloc | apply pw_below_drewN | apply below_drew1) | exact HB.out)⟩
          · rw [if_neg c21] at H
            have c21b0 : ((x5_1.length : Int) == 0) = false := beq_eq_false_iff_ne.mpr c21
            have c21b1 : ((x5_1.length : Int) != 0) = true := bne_iff_ne.mpr c21
            have c21b2 : ¬ (x5_1 = []) := fun h_ => c21 (by rw [h_]; rfl)
            have H' := Aside0.mk H
            clear H
            obtain ⟨Ao23, co23, eo23⟩ := Kd.R_slice HO_5.out
            subst eo23
            go_wp2
            go_loopg [11, 62] k1 (fun kq v11 v62 w' => ∃ (x11_2 : List (S27)) (x62_2 : Int), v62 = .int .i64 x62_2 ∧ Aside0 (runnellaw19_CheckLabels.l2 kq x5_1 x11_2 l1 (l1.length : Int) x62_2 = some r) ∧ Aside0 (kq ≤ k1) ∧ Aside0 (Kd.R Kd.string 9 w' w.heap.size (fun _ => True) (.slice Ao23 x5_1.length co23) x5_1) ∧ Aside0 (Kd.N k27 27 w' w.heap.size (fun k_ => some k_ ≠ ((.slice Ao23 x5_1.length co23) : Value).ownBlock) v11 x11_2) ∧ Aside0 (Below w.heap.size w w'))
            case atStart => exact ⟨(([] : List (S27))), (0), (by first | rfl | (simp; done) | (simp [*]; done)), H', ⟨Nat.le_refl _⟩, ⟨by (with_reducible repeat (first | apply Kd.R_alloc | apply Kd.R_drewN | apply Kd.R_drew)); exact HO_5.out⟩, ⟨by first | exact Kd.S_nil _ _ _ _ _ | exact Kd.N_nil _ _ _ _ _ | exact Kd.V_nil _ _ _ _ _ | exact Kd.Q_nil _ _ _ _ _ | exact Kd.R_nil _ _ _ _ _⟩, ⟨by repeat (first | (with_reducible first | exact HB.out | apply below_alloc | apply pw_below_drewN | apply below_drew1) | exact HB.out)⟩⟩
            case round =>
              clear H'
              try clear c1
              try clear p1
              try clear q1
              try clear hx1
              try clear c2
              try clear p2
              try clear c4
              try clear c5
              try clear c6
              try clear c6b0
              try clear p6
              try clear c7
              try clear c7b0
              try clear c8
              try clear c8b0
              try clear c10
              try clear c10b0
              try clear c10b1
              try clear c11
              try clear c11b0
              try clear c11b1
              try clear c13
              try clear c13b0
              try clear c14
              try clear c14b0
              try clear c15
              try clear c15b0
              try clear c16
              try clear c17
              try clear c18
              try clear c18b0
              try clear c18b1
              try clear c19
              try clear p19
              try clear q19
              try clear hx19
              try clear c20
              try clear c21
              try clear c21b0
              try clear c21b1
              try clear c21b2
              try clear hx194_0
              try clear hx195_0
              try clear p1
              try clear p194
              try clear p195
              try clear p2
              try clear q1
              try clear q194
              try clear q195
              obtain ⟨x11_2, x62_2, rfl, HA, HK2, HO_5, HO_11, HB⟩ := hrel
              cases gk with
              | zero => exact absurd HA.out (by simp [runnellaw19_CheckLabels.l2])
              | succ k2 =>
                have H := HA.out
                clear HA
                simp only [runnellaw19_CheckLabels.l2] at H
                by_cases c24 : x62_2 < (l1.length : Int)
                · rw [if_pos c24] at H
                  have c24b0 : decide (x62_2 < (l1.length : Int)) = true := decide_eq_true c24
                  clear c24
                  by_cases c25 : 0 ≤ x62_2
                  · rw [if_pos c25] at H
                    have c25b0 : decide (0 ≤ x62_2) = true := decide_eq_true c25
                    clear c25
                    by_cases c26 : x62_2 < (l1.length : Int)
                    · rw [if_pos c26] at H
                      have c26b0 : decide (x62_2 < (l1.length : Int)) = true := decide_eq_true c26
                      clear c26
                      obtain ⟨ji27, hji27⟩ : ∃ j_ : Int, (Int.tmod (rd l1 x62_2) 2) = j_ := ⟨_, rfl⟩
                      replace H : (if 0 ≤ (ji27) then (if (ji27) < 2 then (if (x5_1.length : Int) = 0 then (none) else (if 0 ≤ (Int.tmod (wrap64 (rd l1 x62_2)) (x5_1.length : Int)) then (if (Int.tmod (wrap64 (rd l1 x62_2)) (x5_1.length : Int)) < (x5_1.length : Int) then (if x11_2.length < 651562446089 then (runnellaw19_CheckLabels.l2 k2 x5_1 (x11_2 ++ [(⟨x62_2, (⟨0, 0, (⟨#[]⟩ : ByteArray)⟩ : S24), (⟨0, 0, (⟨#[]⟩ : ByteArray)⟩ : S24), false, bt (⟨#[98, 116]⟩ : ByteArray) (ji27), rdOf ByteArray.empty x5_1 (Int.tmod (wrap64 (rd l1 x62_2)) (x5_1.length : Int)), (⟨#[]⟩ : ByteArray), (⟨#[]⟩ : ByteArray), (⟨#[]⟩ : ByteArray), ([] : List (S117)), 0, false, false, (⟨#[]⟩ : ByteArray), (⟨#[]⟩ : ByteArray)⟩ : S27)]) l1 (l1.length : Int) (wrap64 (x62_2 + 1))) else (none)) else (none)) else (none))) else (none)) else (none)) = some r := by first | (rw [hji27] at H; exact H) | (simp only [hji27] at H ⊢; exact H)
                      by_cases c28 : 0 ≤ (ji27)
                      · rw [if_pos c28] at H
                        have c28b0 : decide (0 ≤ (ji27)) = true := decide_eq_true c28
                        clear c28
                        by_cases c29 : (ji27) < 2
                        · rw [if_pos c29] at H
                          have c29b0 : decide ((ji27) < 2) = true := decide_eq_true c29
                          clear c29
                          by_cases c31 : (x5_1.length : Int) = 0
                          · rw [if_pos c31] at H
                            exact absurd H (by simp)
                          · rw [if_neg c31] at H
                            have c31b0 : ((x5_1.length : Int) == 0) = false := beq_eq_false_iff_ne.mpr c31
                            have c31b1 : ((x5_1.length : Int) != 0) = true := bne_iff_ne.mpr c31
                            have c31b2 : ¬ (x5_1 = []) := fun h_ => c31 (by rw [h_]; rfl)
                            obtain ⟨ji32, hji32⟩ : ∃ j_ : Int, (Int.tmod (wrap64 (rd l1 x62_2)) (x5_1.length : Int)) = j_ := ⟨_, rfl⟩
                            replace H : (if 0 ≤ (ji32) then (if (ji32) < (x5_1.length : Int) then (if x11_2.length < 651562446089 then (runnellaw19_CheckLabels.l2 k2 x5_1 (x11_2 ++ [(⟨x62_2, (⟨0, 0, (⟨#[]⟩ : ByteArray)⟩ : S24), (⟨0, 0, (⟨#[]⟩ : ByteArray)⟩ : S24), false, bt (⟨#[98, 116]⟩ : ByteArray) (ji27), rdOf ByteArray.empty x5_1 (ji32), (⟨#[]⟩ : ByteArray), (⟨#[]⟩ : ByteArray), (⟨#[]⟩ : ByteArray), ([] : List (S117)), 0, false, false, (⟨#[]⟩ : ByteArray), (⟨#[]⟩ : ByteArray)⟩ : S27)]) l1 (l1.length : Int) (wrap64 (x62_2 + 1))) else (none)) else (none)) else (none)) = some r := by first | (rw [hji32] at H; exact H) | (simp only [hji32] at H ⊢; exact H)
                            by_cases c33 : 0 ≤ (ji32)
                            · rw [if_pos c33] at H
                              have c33b0 : decide (0 ≤ (ji32)) = true := decide_eq_true c33
                              clear c33
                              by_cases c34 : (ji32) < (x5_1.length : Int)
                              · rw [if_pos c34] at H
                                have c34b0 : decide ((ji32) < (x5_1.length : Int)) = true := decide_eq_true c34
                                clear c34
                                by_cases c35 : x11_2.length < 651562446089
                                · rw [if_pos c35] at H
                                  have LMc35 := Aside0.mk c35
                                  clear c35
                                  obtain ⟨y201, hy201⟩ : ∃ y_ : List (S27), y_ = (x11_2 ++ [(⟨x62_2, (⟨0, 0, (⟨#[]⟩ : ByteArray)⟩ : S24), (⟨0, 0, (⟨#[]⟩ : ByteArray)⟩ : S24), false, bt (⟨#[98, 116]⟩ : ByteArray) (ji27), rdOf ByteArray.empty x5_1 (ji32), (⟨#[]⟩ : ByteArray), (⟨#[]⟩ : ByteArray), (⟨#[]⟩ : ByteArray), ([] : List (S117)), 0, false, false, (⟨#[]⟩ : ByteArray), (⟨#[]⟩ : ByteArray)⟩ : S27)]) := ⟨_, rfl⟩
                                  replace H : (runnellaw19_CheckLabels.l2 k2 x5_1 y201 l1 (l1.length : Int) (wrap64 (x62_2 + 1))) = some r := by first | (rw [hy201]; with_reducible exact H) | (have H2_ := (Option.bind_some _ _).symm.trans H; rw [hy201]; with_reducible exact H2_) | (have H2_ := (Option.bind_some _ _).symm.trans H; with_reducible exact H2_) | with_reducible exact H | (rw [hy201]; exact H) | exact H
                                  have Ny201 := Aside0.mk hy201
                                  clear hy201
                                  have H' := Aside0.mk H
                                  clear H
                                  have p199 : 0 ≤ (x62_2 : Int) := of_decide_eq_true (by first | (with_reducible assumption) | assumption)
                                  have q199 : x62_2 < (l1.length : Int) := of_decide_eq_true (by first | (with_reducible assumption) | assumption)
                                  obtain ⟨ad199, e199, hx199_0⟩ := Kd.at_int HR1.out x62_2 p199 q199
                                  cases e199
                                  replace hx199_0 := (HB.out.cell (World.block_lt_of_cell? w _ hx199_0)).trans hx199_0
                                  replace p199 := eq_true p199
                                  replace q199 := eq_true q199
                                  try go_wp2
                                  have n0_ := Aside0.mk (Kd.R_drew HO_5.out)
                                  have n1_ := Aside0.mk (Kd.N_drew HO_11.out)
                                  have n2_ := Aside0.mk (below_drew1 HB.out)
                                  clear HO_5
                                  clear HO_11
                                  clear HB
                                  have HO_5 := n0_
                                  have HO_11 := n1_
                                  have HB := n2_
                                  clear n0_ n1_ n2_
                                  have p30 : 0 ≤ ((ji27) : Int) := of_decide_eq_true (by first | (with_reducible assumption) | assumption)
                                  have q30 : (ji27) < (2 : Int) := of_decide_eq_true (by first | (with_reducible assumption) | assumption)
                                  have hx30 := bt_at (⟨#[98, 116]⟩ : ByteArray) (ji27)
                                  replace p30 := eq_true p30
                                  replace q30 := eq_true q30
                                  have p200 : 0 ≤ ((ji32) : Int) := of_decide_eq_true (by first | (with_reducible assumption) | assumption)
                                  have q200 : (ji32) < (x5_1.length : Int) := of_decide_eq_true (by first | (with_reducible assumption) | assumption)
                                  obtain ⟨ad200, e200, hx200_0⟩ := Kd.at_string (Kd.R_reads' HO_5.out).2.2 (ji32) p200 q200
                                  cases e200
                                  replace p200 := eq_true p200
                                  replace q200 := eq_true q200
                                  refine start_ (n := 17) (S := fun w' => w'.cell? (ad200.add ((ji32)).toNat) = some (.string (rdOf ByteArray.empty x5_1 (ji32)))) (ds := [14, 15]) #[false, false, false, false, false, false, false, false, false, false, false, false, false, false, false, false, false] (by kernel_rfl) rfl rfl (hx200_0) (fun hHeld => ?_); refine with_tabW runnellaw19_CheckLabels.tab23 runnellaw19_CheckLabels.bits23 (fun HT_ HW_ => ?_)
                                  generalize wr.drew = w36 at HO_5 HO_11 HB hx200_0 hHeld ⊢
                                  refine pure_ (i := 0) (N := some 67) (v := ?_) (a' := ?_) #[true, false, false, false, false, false, false, false, false, false, false, false, false, false, false, false, false] rfl rfl (any_of HT_.out (by kernel_rfl)) (fun _ _ _ h => h) (Or.inl ⟨by rfl, ?_⟩) ?_ ?_
                                  rotate_left
                                  · intro w'
                                    go_simp
                                    with_reducible rfl
                                  rotate_left
                                  · simp only [Act.put, List.setIfInBounds_toArray, List.set_cons_zero, List.set_cons_succ, i64_w, i32_w]
                                    rfl
                                  refine pure_ (i := 1) (N := some 68) (v := ?_) (a' := ?_) #[true, true, false, false, false, false, false, false, false, false, false, false, false, false, false, false, false] rfl rfl (any_of HT_.out (by kernel_rfl)) (fun _ _ _ h => h) (Or.inl ⟨by rfl, ?_⟩) ?_ ?_
                                  rotate_left
                                  · intro w'
                                    go_simp
                                    with_reducible rfl
                                  rotate_left
                                  · simp only [Act.put, List.setIfInBounds_toArray, List.set_cons_zero, List.set_cons_succ, i64_w, i32_w]
                                    rfl
                                  refine pure_ (i := 2) (N := some 69) (v := ?_) (a' := ?_) #[true, true, true, false, false, false, false, false, false, false, false, false, false, false, false, false, false] rfl rfl (any_of HT_.out (by kernel_rfl)) (fun _ _ _ h => h) (Or.inl ⟨by rfl, ?_⟩) ?_ ?_
                                  rotate_left
                                  · intro w'
                                    go_simp
                                    with_reducible rfl
                                  rotate_left
                                  · simp only [Act.put, List.setIfInBounds_toArray, List.set_cons_zero, List.set_cons_succ, i64_w, i32_w]
                                    rfl
                                  refine pure_ (i := 4) (N := some 71) (v := ?_) (a' := ?_) #[true, true, true, false, true, false, false, false, false, false, false, false, false, false, false, false, false] rfl rfl (any_of HT_.out (by kernel_rfl)) (fun _ _ _ h => h) (Or.inl ⟨by rfl, ?_⟩) ?_ ?_
                                  rotate_left
                                  · intro w'
                                    go_simp
                                    with_reducible rfl
                                  rotate_left
                                  · simp only [Act.put, List.setIfInBounds_toArray, List.set_cons_zero, List.set_cons_succ, i64_w, i32_w]
                                    rfl
                                  refine pure_ (i := 5) (N := some 72) (v := ?_) (a' := ?_) #[true, true, true, false, true, true, false, false, false, false, false, false, false, false, false, false, false] rfl rfl (any_of HT_.out (by kernel_rfl)) (fun _ _ _ h => h) (Or.inl ⟨by rfl, ?_⟩) ?_ ?_
                                  rotate_left
                                  · intro w'
                                    go_simp
                                    with_reducible rfl
                                  rotate_left
                                  · simp only [Act.put, List.setIfInBounds_toArray, List.set_cons_zero, List.set_cons_succ, i64_w, i32_w]
                                    rfl
                                  refine pure_ (i := 6) (N := some 73) (v := ?_) (a' := ?_) #[true, true, true, false, true, true, true, false, false, false, false, false, false, false, false, false, false] rfl rfl (any_of HT_.out (by kernel_rfl)) (fun _ _ _ h => h) (Or.inl ⟨by rfl, ?_⟩) ?_ ?_
                                  rotate_left
                                  · intro w'
                                    go_simp
                                    with_reducible rfl
                                  rotate_left
                                  · simp only [Act.put, List.setIfInBounds_toArray, List.set_cons_zero, List.set_cons_succ, i64_w, i32_w]
                                    rfl
                                  refine pure_ (i := 7) (N := some 74) (v := ?_) (a' := ?_) #[true, true, true, false, true, true, true, true, false, false, false, false, false, false, false, false, false] rfl rfl (any_of HT_.out (by kernel_rfl)) (fun _ _ _ h => h) (Or.inl ⟨by rfl, ?_⟩) ?_ ?_
                                  rotate_left
                                  · intro w'
                                    go_simp
                                    with_reducible rfl
                                  rotate_left
                                  · simp only [Act.put, List.setIfInBounds_toArray, List.set_cons_zero, List.set_cons_succ, i64_w, i32_w]
                                    rfl
                                  refine pure_ (i := 8) (N := some 75) (v := ?_) (a' := ?_) #[true, true, true, false, true, true, true, true, true, false, false, false, false, false, false, false, false] rfl rfl (any_of HT_.out (by kernel_rfl)) (fun _ _ _ h => h) (Or.inl ⟨by rfl, ?_⟩) ?_ ?_
                                  rotate_left
                                  · intro w'
                                    go_simp
                                    with_reducible rfl
                                  rotate_left
                                  · simp only [Act.put, List.setIfInBounds_toArray, List.set_cons_zero, List.set_cons_succ, i64_w, i32_w]
                                    rfl
                                  refine pure_ (i := 9) (N := some 76) (v := ?_) (a' := ?_) #[true, true, true, false, true, true, true, true, true, true, false, false, false, false, false, false, false] rfl rfl (any_of HT_.out (by kernel_rfl)) (fun _ _ _ h => h) (Or.inl ⟨by rfl, ?_⟩) ?_ ?_
                                  rotate_left
                                  · intro w'
                                    go_simp
                                    with_reducible rfl
                                  rotate_left
                                  · simp only [Act.put, List.setIfInBounds_toArray, List.set_cons_zero, List.set_cons_succ, i64_w, i32_w]
                                    rfl
                                  refine pure_ (i := 10) (N := some 77) (v := ?_) (a' := ?_) #[true, true, true, false, true, true, true, true, true, true, true, false, false, false, false, false, false] rfl rfl (any_of HT_.out (by kernel_rfl)) (fun _ _ _ h => h) (Or.inl ⟨by rfl, ?_⟩) ?_ ?_
                                  rotate_left
                                  · intro w'
                                    go_simp
                                    with_reducible rfl
                                  rotate_left
                                  · simp only [Act.put, List.setIfInBounds_toArray, List.set_cons_zero, List.set_cons_succ, i64_w, i32_w]
                                    rfl
                                  refine pure_ (i := 12) (N := some 79) (v := ?_) (a' := ?_) #[true, true, true, false, true, true, true, true, true, true, true, false, true, false, false, false, false] rfl rfl (any_of HT_.out (by kernel_rfl)) (fun _ _ _ h => h) (Or.inl ⟨by rfl, ?_⟩) ?_ ?_
                                  rotate_left
                                  · intro w'
                                    go_simp
                                    with_reducible rfl
                                  rotate_left
                                  · simp only [Act.put, List.setIfInBounds_toArray, List.set_cons_zero, List.set_cons_succ, i64_w, i32_w]
                                    rfl
                                  refine take_ (i := 3) (N := some 70) (v := ?_) (a' := ?_) #[true, true, true, true, true, true, true, true, true, true, true, false, true, false, false, false, false] rfl rfl (take_ofW HT_.out HW_.out (by kernel_rfl)) (fun _ _ _ h => h) (Or.inl ⟨by rfl, ?_⟩) hHeld ?_ ?_
                                  rotate_left
                                  · intro w' s0
                                    go_simp
                                    with_reducible rfl
                                  rotate_left
                                  · simp only [Act.put, List.setIfInBounds_toArray, List.set_cons_zero, List.set_cons_succ, i64_w, i32_w]
                                    rfl
                                  refine take_ (i := 11) (N := some 78) (v := ?_) (a' := ?_) #[true, true, true, true, true, true, true, true, true, true, true, true, true, false, false, false, false] rfl rfl (take_ofW HT_.out HW_.out (by kernel_rfl)) (fun _ _ _ h => h) (Or.inl ⟨by rfl, ?_⟩) hHeld ?_ ?_
                                  rotate_left
                                  · intro w' s0
                                    go_simp
                                    with_reducible rfl
                                  rotate_left
                                  · simp only [Act.put, List.setIfInBounds_toArray, List.set_cons_zero, List.set_cons_succ, i64_w, i32_w]
                                    rfl
                                  refine pure_ (i := 13) (N := some 80) (v := ?_) (a' := ?_) #[true, true, true, true, true, true, true, true, true, true, true, true, true, true, false, false, false] rfl rfl (any_of HT_.out (by kernel_rfl)) (fun _ _ _ h => h) (Or.inl ⟨by rfl, ?_⟩) ?_ ?_
                                  rotate_left
                                  · intro w'
                                    go_simp
                                    with_reducible rfl
                                  rotate_left
                                  · simp only [Act.put, List.setIfInBounds_toArray, List.set_cons_zero, List.set_cons_succ, i64_w, i32_w]
                                    rfl
                                  refine last_ (i := 14) (N := some 81) #[true, true, true, true, true, true, true, true, true, true, true, true, true, true, true, false, false] rfl rfl (one_of HT_.out (by kernel_rfl)) (by decide) (fun K hK => ?_)
                                  refine value_ (w1 := ?_) (v := ?_) (by rfl) rfl ?_ ?_
                                  rotate_left 2
                                  · go_simp
                                    constructor
                                    · rfl
                                    · rfl
                                  refine hK.out _ _ ?_
                                  clear hK K
                                  refine norm_ (a' := ?_) ?_ ?_
                                  rotate_left
                                  · show Act.put _ (some 81) _ = _
                                    simp only [Act.put, List.setIfInBounds_toArray, List.set_cons_zero, List.set_cons_succ, i64_w, i32_w]
                                    rfl
                                  refine last_ (i := 15) (N := some 82) #[true, true, true, true, true, true, true, true, true, true, true, true, true, true, true, true, false] rfl rfl (one_of HT_.out (by kernel_rfl)) (by decide) (fun K hK => ?_)
                                  refine Kd.N_append_step k27 (w0 := w) w.heap.size (by rfl) (.tmp 67) (.tmp 81) 22 27 (.agg #[(.int .i64 0), (.int .i64 0), (.int .i64 0), (.string ⟨#[]⟩), (.int .i64 0), (.int .i64 0), (.string ⟨#[]⟩), (.bool false), (.int .u8 0), (.string ⟨#[]⟩), (.string ⟨#[]⟩), (.string ⟨#[]⟩), (.string ⟨#[]⟩), (.slice none 0 0), (.int .i64 0), (.bool false), (.bool false), (.string ⟨#[]⟩), (.string ⟨#[]⟩)]) 216 rfl Try.underlying22 info27 rfl (by decide) (by omega) u11 x11_2 (⟨x62_2, (⟨0, 0, (⟨#[]⟩ : ByteArray)⟩ : S24), (⟨0, 0, (⟨#[]⟩ : ByteArray)⟩ : S24), false, bt (⟨#[98, 116]⟩ : ByteArray) (ji27), rdOf ByteArray.empty x5_1 (ji32), (⟨#[]⟩ : ByteArray), (⟨#[]⟩ : ByteArray), (⟨#[]⟩ : ByteArray), ([] : List (S117)), 0, false, false, (⟨#[]⟩ : ByteArray), (⟨#[]⟩ : ByteArray)⟩ : S27) [.int .i64 x62_2, .int .i64 0, .int .i64 0, .string (⟨#[]⟩ : ByteArray), .int .i64 0, .int .i64 0, .string (⟨#[]⟩ : ByteArray), .bool false, .int .u8 (bt (⟨#[98, 116]⟩ : ByteArray) (ji27)), .string (rdOf ByteArray.empty x5_1 (ji32)), .string (⟨#[]⟩ : ByteArray), .string (⟨#[]⟩ : ByteArray), .string (⟨#[]⟩ : ByteArray), .slice none 0 0, .int .i64 0, .bool false, .bool false, .string (⟨#[]⟩ : ByteArray), .string (⟨#[]⟩ : ByteArray)] (fun k_ => some k_ ≠ (.slice (some ad200) x5_1.length co23 : Value).ownBlock) (fun k_ => ((fun k_ => some k_ ≠ (.slice (some ad200) x5_1.length co23 : Value).ownBlock)) k_ ∧ some k_ ≠ (u11 : Value).ownBlock) rfl rfl ?aP (fun _ hk => hk) ?aF ?aO ?aB ?aS ?aL ?_
                                  (case aP => exact (k27_mkF _ _ (⟨x62_2, (⟨0, 0, (⟨#[]⟩ : ByteArray)⟩ : S24), (⟨0, 0, (⟨#[]⟩ : ByteArray)⟩ : S24), false, bt (⟨#[98, 116]⟩ : ByteArray) (ji27), rdOf ByteArray.empty x5_1 (ji32), (⟨#[]⟩ : ByteArray), (⟨#[]⟩ : ByteArray), (⟨#[]⟩ : ByteArray), ([] : List (S117)), 0, false, false, (⟨#[]⟩ : ByteArray), (⟨#[]⟩ : ByteArray)⟩ : S27) (Nat.le_refl _) (Kd.F_nil _ _ _)))
                                  (case aB => exact (by repeat (first | (with_reducible first | exact HB.out | apply below_alloc | apply pw_below_drewN | apply below_drew1) | exact HB.out)))
                                  (case aF => exact (fun k_ hk => Kd.fresh' (Kd.R_lt (by (with_reducible repeat (first | apply Kd.R_alloc | apply Kd.R_drewN | apply Kd.R_drew)); exact HO_5.out)) k_ hk))
                                  (case aO => exact (by (with_reducible repeat (first | apply Kd.N_alloc | apply Kd.N_drewN | apply Kd.N_drew)); exact HO_11.out))
                                  (case aS => exact (below_size (by repeat (first | (with_reducible first | exact HB.out | apply below_alloc | apply pw_below_drewN | apply below_drew1) | exact HB.out))))
                                  (case aL => have := LMc35.out; omega)
                                  intro v202 w37 ho hb hg hat
                                  rw [← Ny201.out] at ho
                                  have n0_ := Aside0.mk (Kd.R_over' (by (with_reducible repeat (first | apply Kd.R_alloc | apply Kd.R_drewN | apply Kd.R_drew)); exact HO_5.out) (Kd.N_typed (by (with_reducible repeat (first | apply Kd.N_alloc | apply Kd.N_drewN | apply Kd.N_drew)); exact HO_11.out)) (by decide) hg)
                                  have n1_ := Aside0.mk (hb)
                                  have n2_ := Aside0.mk (ho)
                                  clear HO_5
                                  clear HB
                                  clear HO_11
                                  have HO_5 := n0_
                                  have HB := n1_
                                  have HO203 := n2_
                                  clear n0_ n1_ n2_
                                  clear ho hb hg hat
                                  refine hK.out _ _ ?_
                                  clear hK K
                                  refine norm_ (a' := ?_) ?_ ?_
                                  rotate_left
                                  · show Act.put _ (some 82) _ = _
                                    simp only [Act.put, List.setIfInBounds_toArray, List.set_cons_zero, List.set_cons_succ, i64_w, i32_w]
                                    rfl
                                  refine pure_ (i := 16) (N := some 11) (v := ?_) (a' := ?_) #[true, true, true, true, true, true, true, true, true, true, true, true, true, true, true, true, true] rfl rfl (any_of HT_.out (by kernel_rfl)) (fun _ _ _ h => h) (Or.inl ⟨by rfl, ?_⟩) ?_ ?_
                                  rotate_left
                                  · intro w'
                                    go_simp
                                    with_reducible rfl
                                  rotate_left
                                  · simp only [Act.put, List.setIfInBounds_toArray, List.set_cons_zero, List.set_cons_succ, i64_w, i32_w]
                                    rfl
                                  refine done_ (done_of HT_.out (by kernel_rfl)) ?_
                                  try go_wp2
                                  go_roundg k2
                                  case measure => have := HK1.out; have := HK2.out; omega
                                  case rel => exact ⟨(y201), (wrap64 (x62_2 + 1)), (by first | rfl | (simp; done) | (simp [*]; done)), (by first | exact H' | (simp only [hji27, hji32]; exact H')), ⟨by have := HK1.out; have := HK2.out; omega⟩, ⟨by (with_reducible repeat (first | apply Kd.R_alloc | apply Kd.R_drewN | apply Kd.R_drew)); exact HO_5.out⟩, ⟨by (with_reducible repeat (first | apply Kd.N_alloc | apply Kd.N_drewN | apply Kd.N_drew)); exact HO203.out⟩, ⟨by repeat (first | (with_reducible first | exact HB.out | apply below_alloc | apply pw_below_drewN | apply below_drew1) | exact HB.out)⟩⟩
                                · rw [if_neg c35] at H
                                  exact absurd H (by simp)
                              · rw [if_neg c34] at H
                                exact absurd H (by simp)
                            · rw [if_neg c33] at H
                              exact absurd H (by simp)
                        · rw [if_neg c29] at H
                          exact absurd H (by simp)
                      · rw [if_neg c28] at H
                        exact absurd H (by simp)
                    · rw [if_neg c26] at H
                      exact absurd H (by simp)
                  · rw [if_neg c25] at H
                    exact absurd H (by simp)
                · rw [if_neg c24] at H
                  have c24b0 : decide (x62_2 < (l1.length : Int)) = false := decide_eq_false c24
                  clear c24
                  replace H := Option.bind_eq_some_iff.mp H
                  obtain ⟨⟨t204, t205⟩, A380, H⟩ := H
                  replace H : (if ((decide ((x11_2.length : Int) > 0)) != (t204 == 22 && (t205 == 0))) = true then (some false) else (runnellaw19_CheckLabels.l3 k2 x5_1 x11_2 x5_1 (x5_1.length : Int) 0)) = some r := H
                  have A38 := Aside0.mk A380
                  clear A380
                  by_cases c39 : ((decide ((x11_2.length : Int) > 0)) != (t204 == 22 && (t205 == 0))) = true
                  · rw [if_pos c39] at H
                    have c39b0 : ((decide ((x11_2.length : Int) > 0)) != (t204 == 22 && (t205 == 0))) = true := c39
                    (try (have c39b5 : (decide (0 < x11_2.length) == (t204 == 22 && (t205 == 0))) = false := by (have h_ := c39b0; rw [show decide ((x11_2.length : Int) > 0) = decide (0 < x11_2.length) from decide_eq_decide.2 (by omega)] at h_; revert h_; generalize decide (0 < x11_2.length) = p_; generalize (t204 == 22 && (t205 == 0)) = q_; cases p_ <;> cases q_ <;> decide)))
                    (try (have c39b1 : decide ((decide ((x11_2.length : Int) > 0)) = (t204 == 22 && (t205 == 0))) = false := by simpa using c39))
                    (try (have c39b2 : ((decide ((x11_2.length : Int) > 0)) == (t204 == 22 && (t205 == 0))) = false := by simpa using c39))
                    (try (have c39b3 : ¬ ((decide ((x11_2.length : Int) > 0)) = (t204 == 22 && (t205 == 0))) := by simpa using c39))
                    clear c39
                    obtain rfl := Option.some.inj H
                    obtain ⟨Ao40, co40, eo40⟩ := Kd.N_slice HO_11.out
                    subst eo40
                    go_wp2_with (first | ((with_reducible refine gate_callee (f := 18) rfl ?_); refine goesL_ (some 88) rfl rfl Try.func18 (by kernel_rfl) rfl #[.slice Ao40 x11_2.length co40] rfl (by (try simp only [List.map_toArray, List.map_cons, List.map_nil]); first | done | rfl | (simp only [List.length_drop, List.length_take]; rfl)) ?_; (with_reducible refine (check_Check.calls _ _ x11_2 t204 t205 _ ?side1 ?side2 A38.out).mono ?_); (case side1 => repeat (first | exact (Kd.N_reads' HO_11.out).2.2 | (with_reducible refine Kd.C_alloc ?_ _) | (with_reducible refine Kd.C_drewN ?_ _) | (with_reducible refine Kd.C_drew ?_))); (case side2 => exact (Kd.N_reads' HO_11.out).2.1); rintro e w41 ⟨rfl, hb⟩; refine ⟨_, rfl, ?_⟩; have n0_ := Aside0.mk (Kd.R_below (by (with_reducible repeat (first | apply Kd.R_alloc | apply Kd.R_drewN | apply Kd.R_drew)); exact HO_5.out) hb); have n1_ := Aside0.mk (Kd.N_below (by (with_reducible repeat (first | apply Kd.N_alloc | apply Kd.N_drewN | apply Kd.N_drew)); exact HO_11.out) hb); have n2_ := Aside0.mk (below_step (by repeat (first | (with_reducible first | exact HB.out | apply below_alloc | apply pw_below_drewN | apply below_drew1) | exact HB.out)) hb); clear HO_5; clear HO_11; clear HB; have HO_5 := n0_; have HO_11 := n1_; have HB := n2_; clear n0_ n1_ n2_; (try clear hb); (try clear hb2); (try clear hk); (try clear hi)))
                    go_ret
                    exact ⟨by first | rfl | (simp only [wrap_wrap]; done) | (simp only [wrap_wrap]; rfl) | (simp [errW_none, errW_some] <;> rfl) | (simp [*, errW_none, errW_some] <;> rfl), by repeat (first | (with_reducible first | exact HB.out | apply below_alloc | apply pw_below_drewN | apply below_drew1) | exact HB.out)⟩
                  · rw [if_neg c39] at H
                    have c39b0 : ((decide ((x11_2.length : Int) > 0)) != (t204 == 22 && (t205 == 0))) = false := by simpa using c39
                    (try (have c39b5 : (decide (0 < x11_2.length) == (t204 == 22 && (t205 == 0))) = true := by (have h_ := c39b0; rw [show decide ((x11_2.length : Int) > 0) = decide (0 < x11_2.length) from decide_eq_decide.2 (by omega)] at h_; revert h_; generalize decide (0 < x11_2.length) = p_; generalize (t204 == 22 && (t205 == 0)) = q_; cases p_ <;> cases q_ <;> decide)))
                    (try (have c39b1 : decide ((decide ((x11_2.length : Int) > 0)) = (t204 == 22 && (t205 == 0))) = true := by simpa using c39))
                    (try (have c39b2 : ((decide ((x11_2.length : Int) > 0)) == (t204 == 22 && (t205 == 0))) = true := by simpa using c39))
                    clear c39
                    have H' := Aside0.mk H
                    clear H
                    obtain ⟨Ao42, co42, eo42⟩ := Kd.N_slice HO_11.out
                    subst eo42
                    go_wp2_with (first | ((with_reducible refine gate_callee (f := 18) rfl ?_); refine goesL_ (some 88) rfl rfl Try.func18 (by kernel_rfl) rfl #[.slice Ao42 x11_2.length co42] rfl (by (try simp only [List.map_toArray, List.map_cons, List.map_nil]); first | done | rfl | (simp only [List.length_drop, List.length_take]; rfl)) ?_; (with_reducible refine (check_Check.calls _ _ x11_2 t204 t205 _ ?side1 ?side2 A38.out).mono ?_); (case side1 => repeat (first | exact (Kd.N_reads' HO_11.out).2.2 | (with_reducible refine Kd.C_alloc ?_ _) | (with_reducible refine Kd.C_drewN ?_ _) | (with_reducible refine Kd.C_drew ?_))); (case side2 => exact (Kd.N_reads' HO_11.out).2.1); rintro e w43 ⟨rfl, hb⟩; refine ⟨_, rfl, ?_⟩; have n0_ := Aside0.mk (Kd.R_below (by (with_reducible repeat (first | apply Kd.R_alloc | apply Kd.R_drewN | apply Kd.R_drew)); exact HO_5.out) hb); have n1_ := Aside0.mk (Kd.N_below (by (with_reducible repeat (first | apply Kd.N_alloc | apply Kd.N_drewN | apply Kd.N_drew)); exact HO_11.out) hb); have n2_ := Aside0.mk (below_step (by repeat (first | (with_reducible first | exact HB.out | apply below_alloc | apply pw_below_drewN | apply below_drew1) | exact HB.out)) hb); clear HO_5; clear HO_11; clear HB; have HO_5 := n0_; have HO_11 := n1_; have HB := n2_; clear n0_ n1_ n2_; (try clear hb); (try clear hb2); (try clear hk); (try clear hi)))
                    go_loopg [11, 94] k2 (fun kq v11 v94 w' => ∃ (x11_3 : List (S27)) (x94_3 : Int), v94 = .int .i64 x94_3 ∧ Aside0 (runnellaw19_CheckLabels.l3 kq x5_1 x11_3 x5_1 (x5_1.length : Int) x94_3 = some r) ∧ Aside0 (kq ≤ k2) ∧ Aside0 (Kd.R Kd.string 9 w' w.heap.size (fun _ => True) (.slice Ao23 x5_1.length co23) x5_1) ∧ Aside0 (Kd.N k27 27 w' w.heap.size (fun k_ => some k_ ≠ ((.slice Ao23 x5_1.length co23) : Value).ownBlock ∧ some k_ ≠ ((.slice Ao23 x5_1.length co23) : Value).ownBlock) v11 x11_3) ∧ Aside0 (Kd.R Kd.string 9 w' w.heap.size (fun _ => True) (.slice Ao23 x5_1.length co23) x5_1) ∧ Aside0 (Below w.heap.size w w'))
                    case atStart => exact ⟨(x11_2), (0), (by first | rfl | (simp; done) | (simp [*]; done)), H', ⟨Nat.le_refl _⟩, ⟨by (with_reducible repeat (first | apply Kd.R_alloc | apply Kd.R_drewN | apply Kd.R_drew)); exact HO_5.out⟩, ⟨by (with_reducible repeat (first | apply Kd.N_alloc | apply Kd.N_drewN | apply Kd.N_drew)); exact Kd.N_mono HO_11.out (fun _ hk => ⟨hk, hk⟩)⟩, ⟨by (with_reducible repeat (first | apply Kd.R_alloc | apply Kd.R_drewN | apply Kd.R_drew)); exact HO_5.out⟩, ⟨by repeat (first | (with_reducible first | exact HB.out | apply below_alloc | apply pw_below_drewN | apply below_drew1) | exact HB.out)⟩⟩
                    case round =>
                      clear H'
                      try clear c1
                      try clear p1
                      try clear q1
                      try clear hx1
                      try clear c2
                      try clear p2
                      try clear q2
                      try clear hx2
                      try clear c3
                      try clear p3
                      try clear q3
                      try clear hx3
                      try clear c4
                      try clear c5
                      try clear c6
                      try clear c6b0
                      try clear p6
                      try clear c7
                      try clear c7b0
                      try clear c8
                      try clear c8b0
                      try clear c10
                      try clear c10b0
                      try clear c10b1
                      try clear c11
                      try clear c11b0
                      try clear c11b1
                      try clear c13
                      try clear c13b0
                      try clear c14
                      try clear c14b0
                      try clear c15
                      try clear c15b0
                      try clear c16
                      try clear c17
                      try clear c18
                      try clear c18b0
                      try clear c18b1
                      try clear c19
                      try clear p19
                      try clear q19
                      try clear hx19
                      try clear c20
                      try clear p20
                      try clear q20
                      try clear hx20
                      try clear c21
                      try clear c21b0
                      try clear c21b1
                      try clear c21b2
                      try clear c24
                      try clear c24b0
                      try clear c25
                      try clear c25b0
                      try clear c26
                      try clear c26b0
                      try clear c28
                      try clear c28b0
                      try clear c29
                      try clear c29b0
                      try clear p30
                      try clear q30
                      try clear hx30
                      try clear c31
                      try clear c31b0
                      try clear c31b1
                      try clear c31b2
                      try clear c33
                      try clear c33b0
                      try clear c34
                      try clear c34b0
                      try clear c35
                      try clear c39
                      try clear c39b0
                      try clear c39b1
                      try clear c39b2
                      try clear hx194_0
                      try clear hx195_0
                      try clear hx199_0
                      try clear hx200_0
                      try clear p1
                      try clear p19
                      try clear p194
                      try clear p195
                      try clear p199
                      try clear p2
                      try clear p200
                      try clear p30
                      try clear p6
                      try clear q1
                      try clear q19
                      try clear q194
                      try clear q195
                      try clear q199
                      try clear q200
                      try clear q30
                      obtain ⟨x11_3, x94_3, rfl, HA, HK3, HO_5, HO_11, HO_92, HB⟩ := hrel
                      cases gk with
                      | zero => exact absurd HA.out (by simp [runnellaw19_CheckLabels.l3])
                      | succ k3 =>
                        have H := HA.out
                        clear HA
                        simp only [runnellaw19_CheckLabels.l3] at H
                        by_cases c44 : x94_3 < (x5_1.length : Int)
                        · rw [if_pos c44] at H
                          have c44b0 : decide (x94_3 < (x5_1.length : Int)) = true := decide_eq_true c44
                          clear c44
                          by_cases c45 : 0 ≤ x94_3
                          · rw [if_pos c45] at H
                            have c45b0 : decide (0 ≤ x94_3) = true := decide_eq_true c45
                            clear c45
                            by_cases c46 : x94_3 < (x5_1.length : Int)
                            · rw [if_pos c46] at H
                              have c46b0 : decide (x94_3 < (x5_1.length : Int)) = true := decide_eq_true c46
                              clear c46
                              by_cases c47 : x11_3.length < 651562446089
                              · rw [if_pos c47] at H
                                have LMc47 := Aside0.mk c47
                                clear c47
                                obtain ⟨y207, hy207⟩ : ∃ y_ : List (S27), y_ = (x11_3 ++ [(⟨wrap64 (1000 + x94_3), (⟨0, 0, (⟨#[]⟩ : ByteArray)⟩ : S24), (⟨0, 0, (⟨#[]⟩ : ByteArray)⟩ : S24), false, 58, rdOf ByteArray.empty x5_1 x94_3, (⟨#[]⟩ : ByteArray), (⟨#[]⟩ : ByteArray), (⟨#[]⟩ : ByteArray), ([] : List (S117)), 0, false, false, (⟨#[]⟩ : ByteArray), (⟨#[]⟩ : ByteArray)⟩ : S27)]) := ⟨_, rfl⟩
                                replace H : (runnellaw19_CheckLabels.l3 k3 x5_1 y207 x5_1 (x5_1.length : Int) (wrap64 (x94_3 + 1))) = some r := by first | (rw [hy207]; with_reducible exact H) | (have H2_ := (Option.bind_some _ _).symm.trans H; rw [hy207]; with_reducible exact H2_) | (have H2_ := (Option.bind_some _ _).symm.trans H; with_reducible exact H2_) | with_reducible exact H | (rw [hy207]; exact H) | exact H
                                have Ny207 := Aside0.mk hy207
                                clear hy207
                                have H' := Aside0.mk H
                                clear H
                                have p206 : 0 ≤ (x94_3 : Int) := of_decide_eq_true (by first | (with_reducible assumption) | assumption)
                                have q206 : x94_3 < (x5_1.length : Int) := of_decide_eq_true (by first | (with_reducible assumption) | assumption)
                                obtain ⟨ad206, e206, hx206_0⟩ := Kd.at_string (Kd.R_reads' HO_92.out).2.2 x94_3 p206 q206
                                cases e206
                                replace p206 := eq_true p206
                                replace q206 := eq_true q206
                                go_wp2_with (first | ((with_reducible refine gate_builtin (b := .append) (xs := #[.tmp 99, .tmp 104]) rfl ?_); (try (refine gate_guard (by rfl) ?_; dsimp only)); at_builtin; refine Kd.N_append k27 (w0 := w) w.heap.size rfl (.tmp 99) (.tmp 104) 22 27 (.agg #[(.int .i64 0), (.int .i64 0), (.int .i64 0), (.string ⟨#[]⟩), (.int .i64 0), (.int .i64 0), (.string ⟨#[]⟩), (.bool false), (.int .u8 0), (.string ⟨#[]⟩), (.string ⟨#[]⟩), (.string ⟨#[]⟩), (.string ⟨#[]⟩), (.slice none 0 0), (.int .i64 0), (.bool false), (.bool false), (.string ⟨#[]⟩), (.string ⟨#[]⟩)]) 216 rfl Try.underlying22 info27 rfl (by decide) (by omega) u11 x11_3 (⟨wrap64 (1000 + x94_3), (⟨0, 0, (⟨#[]⟩ : ByteArray)⟩ : S24), (⟨0, 0, (⟨#[]⟩ : ByteArray)⟩ : S24), false, 58, rdOf ByteArray.empty x5_1 x94_3, (⟨#[]⟩ : ByteArray), (⟨#[]⟩ : ByteArray), (⟨#[]⟩ : ByteArray), ([] : List (S117)), 0, false, false, (⟨#[]⟩ : ByteArray), (⟨#[]⟩ : ByteArray)⟩ : S27) [.int .i64 (wrap64 (1000 + x94_3)), .int .i64 0, .int .i64 0, .string (⟨#[]⟩ : ByteArray), .int .i64 0, .int .i64 0, .string (⟨#[]⟩ : ByteArray), .bool false, .int .u8 58, .string (rdOf ByteArray.empty x5_1 x94_3), .string (⟨#[]⟩ : ByteArray), .string (⟨#[]⟩ : ByteArray), .string (⟨#[]⟩ : ByteArray), .slice none 0 0, .int .i64 0, .bool false, .bool false, .string (⟨#[]⟩ : ByteArray), .string (⟨#[]⟩ : ByteArray)] (fun k_ => some k_ ≠ (.slice (some ad206) x5_1.length co23 : Value).ownBlock ∧ some k_ ≠ (.slice (some ad206) x5_1.length co23 : Value).ownBlock) (fun k_ => ((fun k_ => some k_ ≠ (.slice (some ad206) x5_1.length co23 : Value).ownBlock ∧ some k_ ≠ (.slice (some ad206) x5_1.length co23 : Value).ownBlock)) k_ ∧ some k_ ≠ (u11 : Value).ownBlock) rfl rfl ?aP (fun _ hk => hk) ?aF ?aO ?aB ?aS ?aL ?_; (case aP => exact (k27_mkF _ _ (⟨wrap64 (1000 + x94_3), (⟨0, 0, (⟨#[]⟩ : ByteArray)⟩ : S24), (⟨0, 0, (⟨#[]⟩ : ByteArray)⟩ : S24), false, 58, rdOf ByteArray.empty x5_1 x94_3, (⟨#[]⟩ : ByteArray), (⟨#[]⟩ : ByteArray), (⟨#[]⟩ : ByteArray), ([] : List (S117)), 0, false, false, (⟨#[]⟩ : ByteArray), (⟨#[]⟩ : ByteArray)⟩ : S27) (Nat.le_refl _) (Kd.F_nil _ _ _))); (case aB => exact (by repeat (first | (with_reducible first | exact HB.out | apply below_alloc | apply pw_below_drewN | apply below_drew1) | exact HB.out))); (case aF => exact (fun k_ hk => ⟨Kd.fresh' (Kd.R_lt (by (with_reducible repeat (first | apply Kd.R_alloc | apply Kd.R_drewN | apply Kd.R_drew)); exact HO_5.out)) k_ hk, Kd.fresh' (Kd.R_lt (by (with_reducible repeat (first | apply Kd.R_alloc | apply Kd.R_drewN | apply Kd.R_drew)); exact HO_92.out)) k_ hk⟩)); (case aO => exact (by (with_reducible repeat (first | apply Kd.N_alloc | apply Kd.N_drewN | apply Kd.N_drew)); exact HO_11.out)); (case aS => exact (below_size (by repeat (first | (with_reducible first | exact HB.out | apply below_alloc | apply pw_below_drewN | apply below_drew1) | exact HB.out)))); (case aL => have := LMc47.out; omega); intro v208 w48 ho hb hg hat; rw [← Ny207.out] at ho; have n0_ := Aside0.mk (Kd.R_over' (by (with_reducible repeat (first | apply Kd.R_alloc | apply Kd.R_drewN | apply Kd.R_drew)); exact HO_5.out) (Kd.N_typed (by (with_reducible repeat (first | apply Kd.N_alloc | apply Kd.N_drewN | apply Kd.N_drew)); exact HO_11.out)) (by decide) hg); have n1_ := Aside0.mk (Kd.R_over' (by (with_reducible repeat (first | apply Kd.R_alloc | apply Kd.R_drewN | apply Kd.R_drew)); exact HO_92.out) (Kd.N_typed (by (with_reducible repeat (first | apply Kd.N_alloc | apply Kd.N_drewN | apply Kd.N_drew)); exact HO_11.out)) (by decide) hg); have n2_ := Aside0.mk (hb); have n3_ := Aside0.mk (ho); clear HO_5; clear HO_92; clear HB; clear HO_11; have HO_5 := n0_; have HO_92 := n1_; have HB := n2_; have HO209 := n3_; clear n0_ n1_ n2_ n3_; clear ho hb hg hat))
                                go_roundg k3
                                case measure => have := HK1.out; have := HK2.out; have := HK3.out; omega
                                case rel => exact ⟨(y207), (wrap64 (x94_3 + 1)), (by first | rfl | (simp; done) | (simp [*]; done)), H', ⟨by have := HK1.out; have := HK2.out; have := HK3.out; omega⟩, ⟨by (with_reducible repeat (first | apply Kd.R_alloc | apply Kd.R_drewN | apply Kd.R_drew)); exact HO_5.out⟩, ⟨by (with_reducible repeat (first | apply Kd.N_alloc | apply Kd.N_drewN | apply Kd.N_drew)); exact HO209.out⟩, ⟨by (with_reducible repeat (first | apply Kd.R_alloc | apply Kd.R_drewN | apply Kd.R_drew)); exact HO_92.out⟩, ⟨by repeat (first | (with_reducible first | exact HB.out | apply below_alloc | apply pw_below_drewN | apply below_drew1) | exact HB.out)⟩⟩
                              · rw [if_neg c47] at H
                                exact absurd H (by simp)
                            · rw [if_neg c46] at H
                              exact absurd H (by simp)
                          · rw [if_neg c45] at H
                            exact absurd H (by simp)
                        · rw [if_neg c44] at H
                          have c44b0 : decide (x94_3 < (x5_1.length : Int)) = false := decide_eq_false c44
                          clear c44
                          by_cases c49 : ([] : List (S27)).length + x11_3.length < 651562446089
                          · rw [if_pos c49] at H
                            have LMc49 := Aside0.mk c49
                            clear c49
                            obtain ⟨y210, hy210⟩ : ∃ y_ : List (S27), y_ = (([] : List (S27)) ++ x11_3) := ⟨_, rfl⟩
                            replace H : (if 0 < (x5_1.length : Int) then (if y210.length < 651562446089 then ((check_Check.f x11_3).bind fun bt217 => (if (bt217.1 == 0 && (bt217.2 == 0)) = true then ((check_Check.f (y210 ++ [(⟨5, (⟨0, 0, (⟨#[]⟩ : ByteArray)⟩ : S24), (⟨0, 0, (⟨#[]⟩ : ByteArray)⟩ : S24), false, 58, rdOf ByteArray.empty x5_1 0, (⟨#[]⟩ : ByteArray), (⟨#[]⟩ : ByteArray), (⟨#[]⟩ : ByteArray), ([] : List (S117)), 0, false, false, (⟨#[]⟩ : ByteArray), (⟨#[]⟩ : ByteArray)⟩ : S27)])).bind fun bt219 => (some (bt219.1 == 22 && (bt219.2 == 5)))) else (some false))) else (none)) else (none)) = some r := by first | (rw [hy210]; with_reducible exact H) | (have H2_ := (Option.bind_some _ _).symm.trans H; rw [hy210]; with_reducible exact H2_) | (have H2_ := (Option.bind_some _ _).symm.trans H; with_reducible exact H2_) | with_reducible exact H | (rw [hy210]; exact H) | exact H
                            have Ny210 := Aside0.mk hy210
                            clear hy210
                            by_cases c50 : 0 < (x5_1.length : Int)
                            · rw [if_pos c50] at H
                              have c50b0 : decide (0 < (x5_1.length : Int)) = true := decide_eq_true c50
                              have c50b1 : decide (0 < x5_1.length) = true := decide_eq_true (by omega)
                              clear c50
                              by_cases c51 : y210.length < 651562446089
                              · rw [if_pos c51] at H
                                have LMc51 := Aside0.mk c51
                                clear c51
                                obtain ⟨y214, hy214⟩ : ∃ y_ : List (S27), y_ = (y210 ++ [(⟨5, (⟨0, 0, (⟨#[]⟩ : ByteArray)⟩ : S24), (⟨0, 0, (⟨#[]⟩ : ByteArray)⟩ : S24), false, 58, rdOf ByteArray.empty x5_1 0, (⟨#[]⟩ : ByteArray), (⟨#[]⟩ : ByteArray), (⟨#[]⟩ : ByteArray), ([] : List (S117)), 0, false, false, (⟨#[]⟩ : ByteArray), (⟨#[]⟩ : ByteArray)⟩ : S27)]) := ⟨_, rfl⟩
                                replace H : ((check_Check.f x11_3).bind fun bt217 => (if (bt217.1 == 0 && (bt217.2 == 0)) = true then ((check_Check.f y214).bind fun bt219 => (some (bt219.1 == 22 && (bt219.2 == 5)))) else (some false))) = some r := by first | (rw [hy214]; with_reducible exact H) | (have H2_ := (Option.bind_some _ _).symm.trans H; rw [hy214]; with_reducible exact H2_) | (have H2_ := (Option.bind_some _ _).symm.trans H; with_reducible exact H2_) | with_reducible exact H | (rw [hy214]; exact H) | exact H
                                have Ny214 := Aside0.mk hy214
                                clear hy214
                                replace H := Option.bind_eq_some_iff.mp H
                                obtain ⟨⟨t217, t218⟩, A520, H⟩ := H
                                replace H : (if (t217 == 0 && (t218 == 0)) = true then ((check_Check.f y214).bind fun bt219 => (some (bt219.1 == 22 && (bt219.2 == 5)))) else (some false)) = some r := H
                                have A52 := Aside0.mk A520
                                clear A520
                                by_cases c53 : (t217 == 0 && (t218 == 0)) = true
                                · rw [if_pos c53] at H
                                  have c53b0 : (t217 == 0 && (t218 == 0)) = true := c53
                                  (try (have c53b1 : decide (t217 = 0 && (t218 == 0)) = true := by simpa using c53))
                                  (try (have c53b2 : (t217 == 0 && (t218 == 0)) = true := by simpa using c53))
                                  clear c53
                                  replace H := Option.bind_eq_some_iff.mp H
                                  obtain ⟨⟨t219, t220⟩, A540, H⟩ := H
                                  replace H : (some (t219 == 22 && (t220 == 5))) = some r := H
                                  have A54 := Aside0.mk A540
                                  clear A540
                                  obtain rfl := Option.some.inj H
                                  obtain ⟨Ao56, co56, eo56⟩ := Kd.N_slice HO_11.out
                                  subst eo56
                                  go_wp2_with (first | ((with_reducible refine gate_builtin (b := .append) (xs := #[.tmp 107, .tmp 108]) rfl ?_); (try (refine gate_guard (by rfl) ?_; dsimp only)); at_builtin; refine Kd.N_append_rows k27 (w0 := w) w.heap.size rfl (.tmp 107) (.tmp 108) 22 27 (.agg #[(.int .i64 0), (.int .i64 0), (.int .i64 0), (.string ⟨#[]⟩), (.int .i64 0), (.int .i64 0), (.string ⟨#[]⟩), (.bool false), (.int .u8 0), (.string ⟨#[]⟩), (.string ⟨#[]⟩), (.string ⟨#[]⟩), (.string ⟨#[]⟩), (.slice none 0 0), (.int .i64 0), (.bool false), (.bool false), (.string ⟨#[]⟩), (.string ⟨#[]⟩)]) 216 rfl Try.underlying22 info27 rfl (by decide) (by omega) (.slice none 0 0) ([] : List (S27)) x11_3 _ _ _ (fun k_ => some k_ ≠ (.slice Ao23 x5_1.length co23 : Value).ownBlock ∧ some k_ ≠ (.slice Ao23 x5_1.length co23 : Value).ownBlock) (fun k_ => ((fun k_ => some k_ ≠ (.slice Ao23 x5_1.length co23 : Value).ownBlock ∧ some k_ ≠ (.slice Ao23 x5_1.length co23 : Value).ownBlock)) k_ ∧ some k_ ≠ (.slice none 0 0 : Value).ownBlock) rfl rfl ?aO ?aR (fun _ hk => hk) ?aF ?aB ?aS ?aL ?_; (case aR => exact (by skip; exact Kd.N_F (Kd.N_mono (ok' := (fun k_ => ((fun k_ => some k_ ≠ (.slice Ao23 x5_1.length co23 : Value).ownBlock ∧ some k_ ≠ (.slice Ao23 x5_1.length co23 : Value).ownBlock)) k_ ∧ some k_ ≠ (.slice none 0 0 : Value).ownBlock)) (HO_11.out) (fun k_ hk => ⟨⟨hk.1, hk.2⟩, (by simp [Value.ownBlock])⟩)))); (case aB => exact (by repeat (first | (with_reducible first | exact HB.out | apply below_alloc | apply pw_below_drewN | apply below_drew1) | exact HB.out))); (case aF => exact (fun k_ hk => ⟨Kd.fresh' (Kd.R_lt (by (with_reducible repeat (first | apply Kd.R_alloc | apply Kd.R_drewN | apply Kd.R_drew)); exact HO_5.out)) k_ hk, Kd.fresh' (Kd.R_lt (by (with_reducible repeat (first | apply Kd.R_alloc | apply Kd.R_drewN | apply Kd.R_drew)); exact HO_92.out)) k_ hk⟩)); (case aO => exact ((Kd.N_nil _ _ _ _ (fun k_ => some k_ ≠ (.slice Ao23 x5_1.length co23 : Value).ownBlock ∧ some k_ ≠ (.slice Ao23 x5_1.length co23 : Value).ownBlock)))); (case aS => exact (below_size (by repeat (first | (with_reducible first | exact HB.out | apply below_alloc | apply pw_below_drewN | apply below_drew1) | exact HB.out)))); (case aL => have := LMc49.out; omega); intro v211 w55 ho hb hg hat; rw [← Ny210.out] at ho; have n0_ := Aside0.mk (Kd.R_grown (by (with_reducible repeat (first | apply Kd.R_alloc | apply Kd.R_drewN | apply Kd.R_drew)); exact HO_5.out) hg (fun _ _ => by simp [Value.ownBlock])); have n1_ := Aside0.mk (Kd.N_afterv (Kd.N_apart_nil (by (with_reducible repeat (first | apply Kd.N_alloc | apply Kd.N_drewN | apply Kd.N_drew)); exact HO_11.out)) hg hat); have n2_ := Aside0.mk (Kd.R_grown (by (with_reducible repeat (first | apply Kd.R_alloc | apply Kd.R_drewN | apply Kd.R_drew)); exact HO_92.out) hg (fun _ _ => by simp [Value.ownBlock])); have n3_ := Aside0.mk (hb); have n4_ := Aside0.mk (ho); clear HO_5; clear HO_11; clear HO_92; clear HB; have HO_5 := n0_; have HO_11 := n1_; have HO_92 := n2_; have HB := n3_; have HO212 := n4_; clear n0_ n1_ n2_ n3_ n4_; clear ho hb hg hat; have p213 : 0 ≤ (0 : Int) := (by omega); have q213 : 0 < (x5_1.length : Int) := of_decide_eq_true (by first | (with_reducible assumption) | assumption); obtain ⟨ad213, e213, hx213_0⟩ := Kd.at_string (Kd.R_reads' HO_5.out).2.2 0 p213 q213; cases e213; have qi213 : (0 < x5_1.length) = True := eq_true (by omega); (try rw [show ((0 : Int)).toNat = 0 from rfl] at hx213_0); (try rw [Addr.add_zero'] at hx213_0); replace p213 := eq_true p213; replace q213 := eq_true q213) | ((with_reducible refine gate_builtin (b := .append) (xs := #[.tmp 110, .tmp 115]) rfl ?_); (try (refine gate_guard (by rfl) ?_; dsimp only)); at_builtin; refine Kd.N_append k27 (w0 := w) w.heap.size rfl (.tmp 110) (.tmp 115) 22 27 (.agg #[(.int .i64 0), (.int .i64 0), (.int .i64 0), (.string ⟨#[]⟩), (.int .i64 0), (.int .i64 0), (.string ⟨#[]⟩), (.bool false), (.int .u8 0), (.string ⟨#[]⟩), (.string ⟨#[]⟩), (.string ⟨#[]⟩), (.string ⟨#[]⟩), (.slice none 0 0), (.int .i64 0), (.bool false), (.bool false), (.string ⟨#[]⟩), (.string ⟨#[]⟩)]) 216 rfl Try.underlying22 info27 rfl (by decide) (by omega) v211 y210 (⟨5, (⟨0, 0, (⟨#[]⟩ : ByteArray)⟩ : S24), (⟨0, 0, (⟨#[]⟩ : ByteArray)⟩ : S24), false, 58, rdOf ByteArray.empty x5_1 0, (⟨#[]⟩ : ByteArray), (⟨#[]⟩ : ByteArray), (⟨#[]⟩ : ByteArray), ([] : List (S117)), 0, false, false, (⟨#[]⟩ : ByteArray), (⟨#[]⟩ : ByteArray)⟩ : S27) [.int .i64 5, .int .i64 0, .int .i64 0, .string (⟨#[]⟩ : ByteArray), .int .i64 0, .int .i64 0, .string (⟨#[]⟩ : ByteArray), .bool false, .int .u8 58, .string (rdOf ByteArray.empty x5_1 0), .string (⟨#[]⟩ : ByteArray), .string (⟨#[]⟩ : ByteArray), .string (⟨#[]⟩ : ByteArray), .slice none 0 0, .int .i64 0, .bool false, .bool false, .string (⟨#[]⟩ : ByteArray), .string (⟨#[]⟩ : ByteArray)] (fun k_ => some k_ ≠ (.slice (some ad213) x5_1.length co23 : Value).ownBlock ∧ some k_ ≠ (.slice (some ad213) x5_1.length co23 : Value).ownBlock) (fun k_ => ((fun k_ => some k_ ≠ (.slice (some ad213) x5_1.length co23 : Value).ownBlock ∧ some k_ ≠ (.slice (some ad213) x5_1.length co23 : Value).ownBlock)) k_ ∧ some k_ ≠ (v211 : Value).ownBlock) rfl rfl ?aP (fun _ hk => hk) ?aF ?aO ?aB ?aS ?aL ?_; (case aP => exact (k27_mkF _ _ (⟨5, (⟨0, 0, (⟨#[]⟩ : ByteArray)⟩ : S24), (⟨0, 0, (⟨#[]⟩ : ByteArray)⟩ : S24), false, 58, rdOf ByteArray.empty x5_1 0, (⟨#[]⟩ : ByteArray), (⟨#[]⟩ : ByteArray), (⟨#[]⟩ : ByteArray), ([] : List (S117)), 0, false, false, (⟨#[]⟩ : ByteArray), (⟨#[]⟩ : ByteArray)⟩ : S27) (Nat.le_refl _) (Kd.F_nil _ _ _))); (case aB => exact (by repeat (first | (with_reducible first | exact HB.out | apply below_alloc | apply pw_below_drewN | apply below_drew1) | exact HB.out))); (case aF => exact (fun k_ hk => ⟨Kd.fresh' (Kd.R_lt (by (with_reducible repeat (first | apply Kd.R_alloc | apply Kd.R_drewN | apply Kd.R_drew)); exact HO_5.out)) k_ hk, Kd.fresh' (Kd.R_lt (by (with_reducible repeat (first | apply Kd.R_alloc | apply Kd.R_drewN | apply Kd.R_drew)); exact HO_92.out)) k_ hk⟩)); (case aO => exact (by (with_reducible repeat (first | apply Kd.N_alloc | apply Kd.N_drewN | apply Kd.N_drew)); exact HO212.out)); (case aS => exact (below_size (by repeat (first | (with_reducible first | exact HB.out | apply below_alloc | apply pw_below_drewN | apply below_drew1) | exact HB.out)))); (case aL => have := LMc51.out; omega); intro v215 w57 ho hb hg hat; rw [← Ny214.out] at ho; have n0_ := Aside0.mk (Kd.R_over' (by (with_reducible repeat (first | apply Kd.R_alloc | apply Kd.R_drewN | apply Kd.R_drew)); exact HO_5.out) (Kd.N_typed (by (with_reducible repeat (first | apply Kd.N_alloc | apply Kd.N_drewN | apply Kd.N_drew)); exact HO212.out)) (by decide) hg); have n1_ := Aside0.mk (Kd.N_afterv (ok := (fun k_ => some k_ ≠ (.slice (some ad213) x5_1.length co23 : Value).ownBlock ∧ some k_ ≠ (.slice (some ad213) x5_1.length co23 : Value).ownBlock)) (by (with_reducible repeat (first | apply Kd.N_alloc | apply Kd.N_drewN | apply Kd.N_drew)); exact HO_11.out) hg hat); have n2_ := Aside0.mk (Kd.R_over' (by (with_reducible repeat (first | apply Kd.R_alloc | apply Kd.R_drewN | apply Kd.R_drew)); exact HO_92.out) (Kd.N_typed (by (with_reducible repeat (first | apply Kd.N_alloc | apply Kd.N_drewN | apply Kd.N_drew)); exact HO212.out)) (by decide) hg); have n3_ := Aside0.mk (hb); have n4_ := Aside0.mk (ho); clear HO_5; clear HO_11; clear HO_92; clear HB; clear HO212; have HO_5 := n0_; have HO_11 := n1_; have HO_92 := n2_; have HB := n3_; have HO216 := n4_; clear n0_ n1_ n2_ n3_ n4_; clear ho hb hg hat) | ((with_reducible refine gate_callee (f := 18) rfl ?_); refine goesL_ (some 118) rfl rfl Try.func18 (by kernel_rfl) rfl #[.slice Ao56 x11_3.length co56] rfl (by (try simp only [List.map_toArray, List.map_cons, List.map_nil]); first | done | rfl | (simp only [List.length_drop, List.length_take]; rfl)) ?_; (with_reducible refine (check_Check.calls _ _ x11_3 t217 t218 _ ?side1 ?side2 A52.out).mono ?_); (case side1 => repeat (first | exact (Kd.N_reads' HO_11.out).2.2 | (with_reducible refine Kd.C_alloc ?_ _) | (with_reducible refine Kd.C_drewN ?_ _) | (with_reducible refine Kd.C_drew ?_))); (case side2 => exact (Kd.N_reads' HO_11.out).2.1); rintro e w58 ⟨rfl, hb⟩; refine ⟨_, rfl, ?_⟩; have n0_ := Aside0.mk (Kd.R_below (by (with_reducible repeat (first | apply Kd.R_alloc | apply Kd.R_drewN | apply Kd.R_drew)); exact HO_5.out) hb); have n1_ := Aside0.mk (Kd.N_below (by (with_reducible repeat (first | apply Kd.N_alloc | apply Kd.N_drewN | apply Kd.N_drew)); exact HO_11.out) hb); have n2_ := Aside0.mk (Kd.R_below (by (with_reducible repeat (first | apply Kd.R_alloc | apply Kd.R_drewN | apply Kd.R_drew)); exact HO_92.out) hb); have n3_ := Aside0.mk (Kd.N_below (by (with_reducible repeat (first | apply Kd.N_alloc | apply Kd.N_drewN | apply Kd.N_drew)); exact HO216.out) hb); have n4_ := Aside0.mk (below_step (by repeat (first | (with_reducible first | exact HB.out | apply below_alloc | apply pw_below_drewN | apply below_drew1) | exact HB.out)) hb); clear HO_5; clear HO_11; clear HO_92; clear HO216; clear HB; have HO_5 := n0_; have HO_11 := n1_; have HO_92 := n2_; have HO216 := n3_; have HB := n4_; clear n0_ n1_ n2_ n3_ n4_; (try clear hb); (try clear hb2); (try clear hk); (try clear hi); obtain ⟨Ao59, co59, eo59⟩ := Kd.N_slice HO216.out; subst eo59) | (go_at_call 18; (with_reducible refine (check_Check.calls _ _ y214 t219 t220 _ ?side1 ?side2 A54.out).mono ?_); (case side1 => repeat (first | exact (Kd.N_reads' HO216.out).2.2 | (with_reducible refine Kd.C_alloc ?_ _) | (with_reducible refine Kd.C_drewN ?_ _) | (with_reducible refine Kd.C_drew ?_))); (case side2 => exact (Kd.N_reads' HO216.out).2.1); rintro e w60 ⟨rfl, hb⟩; have n0_ := Aside0.mk (Kd.R_below (by (with_reducible repeat (first | apply Kd.R_alloc | apply Kd.R_drewN | apply Kd.R_drew)); exact HO_5.out) hb); have n1_ := Aside0.mk (Kd.N_below (by (with_reducible repeat (first | apply Kd.N_alloc | apply Kd.N_drewN | apply Kd.N_drew)); exact HO_11.out) hb); have n2_ := Aside0.mk (Kd.R_below (by (with_reducible repeat (first | apply Kd.R_alloc | apply Kd.R_drewN | apply Kd.R_drew)); exact HO_92.out) hb); have n3_ := Aside0.mk (Kd.N_below (by (with_reducible repeat (first | apply Kd.N_alloc | apply Kd.N_drewN | apply Kd.N_drew)); exact HO216.out) hb); have n4_ := Aside0.mk (below_step (by repeat (first | (with_reducible first | exact HB.out | apply below_alloc | apply pw_below_drewN | apply below_drew1) | exact HB.out)) hb); clear HO_5; clear HO_11; clear HO_92; clear HO216; clear HB; have HO_5 := n0_; have HO_11 := n1_; have HO_92 := n2_; have HO216 := n3_; have HB := n4_; clear n0_ n1_ n2_ n3_ n4_; (try clear hb); (try clear hb2); (try clear hk); (try clear hi)))
                                  go_ret
                                  exact ⟨by first | rfl | (simp only [wrap_wrap]; done) | (simp only [wrap_wrap]; rfl) | (simp [errW_none, errW_some] <;> rfl) | (simp [*, errW_none, errW_some] <;> rfl), by repeat (first | (with_reducible first | exact HB.out | apply below_alloc | apply pw_below_drewN | apply below_drew1) | exact HB.out)⟩
                                · rw [if_neg c53] at H
                                  have c53b0 : (t217 == 0 && (t218 == 0)) = false := by simpa using c53
                                  (try (have c53b1 : decide (t217 = 0 && (t218 == 0)) = false := by simpa using c53))
                                  (try (have c53b2 : (t217 == 0 && (t218 == 0)) = false := by simpa using c53))
                                  (try (have c53b3 : ¬ (t217 = 0 && (t218 == 0)) := by simpa using c53))
                                  clear c53
                                  obtain rfl := Option.some.inj H
                                  obtain ⟨Ao62, co62, eo62⟩ := Kd.N_slice HO_11.out
                                  subst eo62
                                  go_wp2_with (first | ((with_reducible refine gate_builtin (b := .append) (xs := #[.tmp 107, .tmp 108]) rfl ?_); (try (refine gate_guard (by rfl) ?_; dsimp only)); at_builtin; refine Kd.N_append_rows k27 (w0 := w) w.heap.size rfl (.tmp 107) (.tmp 108) 22 27 (.agg #[(.int .i64 0), (.int .i64 0), (.int .i64 0), (.string ⟨#[]⟩), (.int .i64 0), (.int .i64 0), (.string ⟨#[]⟩), (.bool false), (.int .u8 0), (.string ⟨#[]⟩), (.string ⟨#[]⟩), (.string ⟨#[]⟩), (.string ⟨#[]⟩), (.slice none 0 0), (.int .i64 0), (.bool false), (.bool false), (.string ⟨#[]⟩), (.string ⟨#[]⟩)]) 216 rfl Try.underlying22 info27 rfl (by decide) (by omega) (.slice none 0 0) ([] : List (S27)) x11_3 _ _ _ (fun k_ => some k_ ≠ (.slice Ao23 x5_1.length co23 : Value).ownBlock ∧ some k_ ≠ (.slice Ao23 x5_1.length co23 : Value).ownBlock) (fun k_ => ((fun k_ => some k_ ≠ (.slice Ao23 x5_1.length co23 : Value).ownBlock ∧ some k_ ≠ (.slice Ao23 x5_1.length co23 : Value).ownBlock)) k_ ∧ some k_ ≠ (.slice none 0 0 : Value).ownBlock) rfl rfl ?aO ?aR (fun _ hk => hk) ?aF ?aB ?aS ?aL ?_; (case aR => exact (by skip; exact Kd.N_F (Kd.N_mono (ok' := (fun k_ => ((fun k_ => some k_ ≠ (.slice Ao23 x5_1.length co23 : Value).ownBlock ∧ some k_ ≠ (.slice Ao23 x5_1.length co23 : Value).ownBlock)) k_ ∧ some k_ ≠ (.slice none 0 0 : Value).ownBlock)) (HO_11.out) (fun k_ hk => ⟨⟨hk.1, hk.2⟩, (by simp [Value.ownBlock])⟩)))); (case aB => exact (by repeat (first | (with_reducible first | exact HB.out | apply below_alloc | apply pw_below_drewN | apply below_drew1) | exact HB.out))); (case aF => exact (fun k_ hk => ⟨Kd.fresh' (Kd.R_lt (by (with_reducible repeat (first | apply Kd.R_alloc | apply Kd.R_drewN | apply Kd.R_drew)); exact HO_5.out)) k_ hk, Kd.fresh' (Kd.R_lt (by (with_reducible repeat (first | apply Kd.R_alloc | apply Kd.R_drewN | apply Kd.R_drew)); exact HO_92.out)) k_ hk⟩)); (case aO => exact ((Kd.N_nil _ _ _ _ (fun k_ => some k_ ≠ (.slice Ao23 x5_1.length co23 : Value).ownBlock ∧ some k_ ≠ (.slice Ao23 x5_1.length co23 : Value).ownBlock)))); (case aS => exact (below_size (by repeat (first | (with_reducible first | exact HB.out | apply below_alloc | apply pw_below_drewN | apply below_drew1) | exact HB.out)))); (case aL => have := LMc49.out; omega); intro v211 w61 ho hb hg hat; rw [← Ny210.out] at ho; have n0_ := Aside0.mk (Kd.R_grown (by (with_reducible repeat (first | apply Kd.R_alloc | apply Kd.R_drewN | apply Kd.R_drew)); exact HO_5.out) hg (fun _ _ => by simp [Value.ownBlock])); have n1_ := Aside0.mk (Kd.N_afterv (Kd.N_apart_nil (by (with_reducible repeat (first | apply Kd.N_alloc | apply Kd.N_drewN | apply Kd.N_drew)); exact HO_11.out)) hg hat); have n2_ := Aside0.mk (Kd.R_grown (by (with_reducible repeat (first | apply Kd.R_alloc | apply Kd.R_drewN | apply Kd.R_drew)); exact HO_92.out) hg (fun _ _ => by simp [Value.ownBlock])); have n3_ := Aside0.mk (hb); have n4_ := Aside0.mk (ho); clear HO_5; clear HO_11; clear HO_92; clear HB; have HO_5 := n0_; have HO_11 := n1_; have HO_92 := n2_; have HB := n3_; have HO212 := n4_; clear n0_ n1_ n2_ n3_ n4_; clear ho hb hg hat; have p213 : 0 ≤ (0 : Int) := (by omega); have q213 : 0 < (x5_1.length : Int) := of_decide_eq_true (by first | (with_reducible assumption) | assumption); obtain ⟨ad213, e213, hx213_0⟩ := Kd.at_string (Kd.R_reads' HO_5.out).2.2 0 p213 q213; cases e213; have qi213 : (0 < x5_1.length) = True := eq_true (by omega); (try rw [show ((0 : Int)).toNat = 0 from rfl] at hx213_0); (try rw [Addr.add_zero'] at hx213_0); replace p213 := eq_true p213; replace q213 := eq_true q213) | ((with_reducible refine gate_builtin (b := .append) (xs := #[.tmp 110, .tmp 115]) rfl ?_); (try (refine gate_guard (by rfl) ?_; dsimp only)); at_builtin; refine Kd.N_append k27 (w0 := w) w.heap.size rfl (.tmp 110) (.tmp 115) 22 27 (.agg #[(.int .i64 0), (.int .i64 0), (.int .i64 0), (.string ⟨#[]⟩), (.int .i64 0), (.int .i64 0), (.string ⟨#[]⟩), (.bool false), (.int .u8 0), (.string ⟨#[]⟩), (.string ⟨#[]⟩), (.string ⟨#[]⟩), (.string ⟨#[]⟩), (.slice none 0 0), (.int .i64 0), (.bool false), (.bool false), (.string ⟨#[]⟩), (.string ⟨#[]⟩)]) 216 rfl Try.underlying22 info27 rfl (by decide) (by omega) v211 y210 (⟨5, (⟨0, 0, (⟨#[]⟩ : ByteArray)⟩ : S24), (⟨0, 0, (⟨#[]⟩ : ByteArray)⟩ : S24), false, 58, rdOf ByteArray.empty x5_1 0, (⟨#[]⟩ : ByteArray), (⟨#[]⟩ : ByteArray), (⟨#[]⟩ : ByteArray), ([] : List (S117)), 0, false, false, (⟨#[]⟩ : ByteArray), (⟨#[]⟩ : ByteArray)⟩ : S27) [.int .i64 5, .int .i64 0, .int .i64 0, .string (⟨#[]⟩ : ByteArray), .int .i64 0, .int .i64 0, .string (⟨#[]⟩ : ByteArray), .bool false, .int .u8 58, .string (rdOf ByteArray.empty x5_1 0), .string (⟨#[]⟩ : ByteArray), .string (⟨#[]⟩ : ByteArray), .string (⟨#[]⟩ : ByteArray), .slice none 0 0, .int .i64 0, .bool false, .bool false, .string (⟨#[]⟩ : ByteArray), .string (⟨#[]⟩ : ByteArray)] (fun k_ => some k_ ≠ (.slice (some ad213) x5_1.length co23 : Value).ownBlock ∧ some k_ ≠ (.slice (some ad213) x5_1.length co23 : Value).ownBlock) (fun k_ => ((fun k_ => some k_ ≠ (.slice (some ad213) x5_1.length co23 : Value).ownBlock ∧ some k_ ≠ (.slice (some ad213) x5_1.length co23 : Value).ownBlock)) k_ ∧ some k_ ≠ (v211 : Value).ownBlock) rfl rfl ?aP (fun _ hk => hk) ?aF ?aO ?aB ?aS ?aL ?_; (case aP => exact (k27_mkF _ _ (⟨5, (⟨0, 0, (⟨#[]⟩ : ByteArray)⟩ : S24), (⟨0, 0, (⟨#[]⟩ : ByteArray)⟩ : S24), false, 58, rdOf ByteArray.empty x5_1 0, (⟨#[]⟩ : ByteArray), (⟨#[]⟩ : ByteArray), (⟨#[]⟩ : ByteArray), ([] : List (S117)), 0, false, false, (⟨#[]⟩ : ByteArray), (⟨#[]⟩ : ByteArray)⟩ : S27) (Nat.le_refl _) (Kd.F_nil _ _ _))); (case aB => exact (by repeat (first | (with_reducible first | exact HB.out | apply below_alloc | apply pw_below_drewN | apply below_drew1) | exact HB.out))); (case aF => exact (fun k_ hk => ⟨Kd.fresh' (Kd.R_lt (by (with_reducible repeat (first | apply Kd.R_alloc | apply Kd.R_drewN | apply Kd.R_drew)); exact HO_5.out)) k_ hk, Kd.fresh' (Kd.R_lt (by (with_reducible repeat (first | apply Kd.R_alloc | apply Kd.R_drewN | apply Kd.R_drew)); exact HO_92.out)) k_ hk⟩)); (case aO => exact (by (with_reducible repeat (first | apply Kd.N_alloc | apply Kd.N_drewN | apply Kd.N_drew)); exact HO212.out)); (case aS => exact (below_size (by repeat (first | (with_reducible first | exact HB.out | apply below_alloc | apply pw_below_drewN | apply below_drew1) | exact HB.out)))); (case aL => have := LMc51.out; omega); intro v215 w63 ho hb hg hat; rw [← Ny214.out] at ho; have n0_ := Aside0.mk (Kd.R_over' (by (with_reducible repeat (first | apply Kd.R_alloc | apply Kd.R_drewN | apply Kd.R_drew)); exact HO_5.out) (Kd.N_typed (by (with_reducible repeat (first | apply Kd.N_alloc | apply Kd.N_drewN | apply Kd.N_drew)); exact HO212.out)) (by decide) hg); have n1_ := Aside0.mk (Kd.N_afterv (ok := (fun k_ => some k_ ≠ (.slice (some ad213) x5_1.length co23 : Value).ownBlock ∧ some k_ ≠ (.slice (some ad213) x5_1.length co23 : Value).ownBlock)) (by (with_reducible repeat (first | apply Kd.N_alloc | apply Kd.N_drewN | apply Kd.N_drew)); exact HO_11.out) hg hat); have n2_ := Aside0.mk (Kd.R_over' (by (with_reducible repeat (first | apply Kd.R_alloc | apply Kd.R_drewN | apply Kd.R_drew)); exact HO_92.out) (Kd.N_typed (by (with_reducible repeat (first | apply Kd.N_alloc | apply Kd.N_drewN | apply Kd.N_drew)); exact HO212.out)) (by decide) hg); have n3_ := Aside0.mk (hb); have n4_ := Aside0.mk (ho); clear HO_5; clear HO_11; clear HO_92; clear HB; clear HO212; have HO_5 := n0_; have HO_11 := n1_; have HO_92 := n2_; have HB := n3_; have HO216 := n4_; clear n0_ n1_ n2_ n3_ n4_; clear ho hb hg hat) | ((with_reducible refine gate_callee (f := 18) rfl ?_); refine goesL_ (some 118) rfl rfl Try.func18 (by kernel_rfl) rfl #[.slice Ao62 x11_3.length co62] rfl (by (try simp only [List.map_toArray, List.map_cons, List.map_nil]); first | done | rfl | (simp only [List.length_drop, List.length_take]; rfl)) ?_; (with_reducible refine (check_Check.calls _ _ x11_3 t217 t218 _ ?side1 ?side2 A52.out).mono ?_); (case side1 => repeat (first | exact (Kd.N_reads' HO_11.out).2.2 | (with_reducible refine Kd.C_alloc ?_ _) | (with_reducible refine Kd.C_drewN ?_ _) | (with_reducible refine Kd.C_drew ?_))); (case side2 => exact (Kd.N_reads' HO_11.out).2.1); rintro e w64 ⟨rfl, hb⟩; refine ⟨_, rfl, ?_⟩; have n0_ := Aside0.mk (Kd.R_below (by (with_reducible repeat (first | apply Kd.R_alloc | apply Kd.R_drewN | apply Kd.R_drew)); exact HO_5.out) hb); have n1_ := Aside0.mk (Kd.N_below (by (with_reducible repeat (first | apply Kd.N_alloc | apply Kd.N_drewN | apply Kd.N_drew)); exact HO_11.out) hb); have n2_ := Aside0.mk (Kd.R_below (by (with_reducible repeat (first | apply Kd.R_alloc | apply Kd.R_drewN | apply Kd.R_drew)); exact HO_92.out) hb); have n3_ := Aside0.mk (Kd.N_below (by (with_reducible repeat (first | apply Kd.N_alloc | apply Kd.N_drewN | apply Kd.N_drew)); exact HO216.out) hb); have n4_ := Aside0.mk (below_step (by repeat (first | (with_reducible first | exact HB.out | apply below_alloc | apply pw_below_drewN | apply below_drew1) | exact HB.out)) hb); clear HO_5; clear HO_11; clear HO_92; clear HO216; clear HB; have HO_5 := n0_; have HO_11 := n1_; have HO_92 := n2_; have HO216 := n3_; have HB := n4_; clear n0_ n1_ n2_ n3_ n4_; (try clear hb); (try clear hb2); (try clear hk); (try clear hi)))
                                  go_ret
                                  exact ⟨by first | rfl | (simp only [wrap_wrap]; done) | (simp only [wrap_wrap]; rfl) | (simp [errW_none, errW_some] <;> rfl) | (simp [*, errW_none, errW_some] <;> rfl), by repeat (first | (with_reducible first | exact HB.out | apply below_alloc | apply pw_below_drewN | apply below_drew1) | exact HB.out)⟩
                              · rw [if_neg c51] at H
                                exact absurd H (by simp)
                            · rw [if_neg c50] at H
                              exact absurd H (by simp)
                          · rw [if_neg c49] at H
                            exact absurd H (by simp)
  · replace c4 := Bool.eq_false_iff.mpr c4
    subst c4
    have H1 : (some false) = some r := by rw [if_neg (show ¬ (false = true) by decide)] at H; exact H
    clear H
    have H := H1
    clear H1
    obtain rfl := Option.some.inj H
    go_enter Try.func5, Try.ntmps5
    go_wp2_with (first | ((with_reducible refine gate_callee (f := 20) rfl ?_); refine goesL_ (some 17) rfl rfl Try.func20 (by kernel_rfl) rfl #[] rfl (by (try simp only [List.map_toArray, List.map_cons, List.map_nil]); first | done | rfl | (simp only [List.length_drop, List.length_take]; rfl)) ?_; (with_reducible refine (runnellaw19_awake.calls  false _ A3.out).mono ?_); rintro e w65 ⟨rfl, hb⟩; refine ⟨_, rfl, ?_⟩; have n0_ := Aside0.mk (below_step (by repeat (first | (with_reducible first | exact HB.out | apply below_alloc | apply pw_below_drewN | apply below_drew1) | exact HB.out)) hb); clear HB; have HB := n0_; clear n0_; (try clear hb); (try clear hb2); (try clear hk); (try clear hi)))
    go_ret
    exact ⟨by first | rfl | (simp only [wrap_wrap]; done) | (simp only [wrap_wrap]; rfl) | (simp [errW_none, errW_some] <;> rfl) | (simp [*, errW_none, errW_some] <;> rfl), by repeat (first | (with_reducible first | exact HB.out | apply below_alloc | apply pw_below_drewN | apply below_drew1) | exact HB.out)⟩

end Go.Proofs.Ytdlbmajilmmapaa.F
