-- Made by a program of this session (wip/tools/pr.py over the kit's printer). Not trusted: Lean checks it.
import Derived.Test.YtdlbmajilmmapaaDoorFx
import Derived.Test.YtdlbmajilmmapaaDoorF7
import Derived.Test.YtdlbmajilmmapaaDoorF9
import Derived.Test.YtdlbmajilmmapaaDoorF11
import Derived.Test.YtdlbmajilmmapaaDoorF14
import Derived.Test.YtdlbmajilmmapaaDoorF15
namespace Go.Proofs.YtdlbmajilmmapaaDoor.F
open Go.RowKit Go.Proofs.YtdlbmajilmmapaaDoorW.PrintWords Go.Proofs.YtdlbmajilmmapaaDoorW.PrintLast Go.Proofs.YtdlbmajilmmapaaDoorW.PrintMore
attribute [local go_sem] max2_int min2_int max_two min_two max_three min_three max_four min_four
set_option linter.unusedVariables false
set_option linter.unusedSimpArgs false

/-! ### runnellaw17_ScanLines: function 4 -/
mutual
def runnellaw17_ScanLines.l0 : Nat → ByteArray → ByteArray → ByteArray → ByteArray → Int → Int → Option (Bool)
  | 0, _, _, _, _, _, _ => none
  | k + 1, x0, x1, x7, x8, x22, x23 => if x23 < x22 then (if x7.size + 1 ≤ 9223372036854775807 then (runnellaw17_ScanLines.l0 k x0 x1 (x7 ++ (⟨#[32]⟩ : ByteArray)) x8 x22 ((x23 + 1) % 256)) else (none)) else (runnellaw17_ScanLines.l1 k x0 x1 x7 x8 0)
def runnellaw17_ScanLines.l1 : Nat → ByteArray → ByteArray → ByteArray → ByteArray → Int → Option (Bool)
  | 0, _, _, _, _, _ => none
  | k + 1, x0, x1, x7, x8, x9 => if x9 < (x0.size : Int) then (if 0 ≤ x9 then (if (bt x0 x9) = 10 then (if x8.size + 1 ≤ 9223372036854775807 then (if x9 ≤ (wrap64 (x9 + 1)) then (if (wrap64 (x9 + 1)) ≤ (x0.size : Int) then (if (x8 ++ (⟨#[92]⟩ : ByteArray)).size + (x0.extract (x9 : Int).toNat ((wrap64 (x9 + 1)) : Int).toNat).size ≤ 9223372036854775807 then (runnellaw17_ScanLines.l1 k x0 x1 x7 ((x8 ++ (⟨#[92]⟩ : ByteArray)) ++ (x0.extract (x9 : Int).toNat ((wrap64 (x9 + 1)) : Int).toNat)) (wrap64 (x9 + 1))) else (none)) else (none)) else (none)) else (none)) else (if (bt x0 x9) = 92 then (if x8.size + 1 ≤ 9223372036854775807 then (if x9 ≤ (wrap64 (x9 + 1)) then (if (wrap64 (x9 + 1)) ≤ (x0.size : Int) then (if (x8 ++ (⟨#[92]⟩ : ByteArray)).size + (x0.extract (x9 : Int).toNat ((wrap64 (x9 + 1)) : Int).toNat).size ≤ 9223372036854775807 then (runnellaw17_ScanLines.l1 k x0 x1 x7 ((x8 ++ (⟨#[92]⟩ : ByteArray)) ++ (x0.extract (x9 : Int).toNat ((wrap64 (x9 + 1)) : Int).toNat)) (wrap64 (x9 + 1))) else (none)) else (none)) else (none)) else (none)) else (if x9 ≤ (wrap64 (x9 + 1)) then (if (wrap64 (x9 + 1)) ≤ (x0.size : Int) then (if x8.size + (x0.extract (x9 : Int).toNat ((wrap64 (x9 + 1)) : Int).toNat).size ≤ 9223372036854775807 then (runnellaw17_ScanLines.l1 k x0 x1 x7 (x8 ++ (x0.extract (x9 : Int).toNat ((wrap64 (x9 + 1)) : Int).toNat)) (wrap64 (x9 + 1))) else (none)) else (none)) else (none)))) else (none)) else (if x7.size + 2 ≤ 9223372036854775807 then (if (x7 ++ (⟨#[92, 10]⟩ : ByteArray)).size + x8.size ≤ 9223372036854775807 then (if ((x7 ++ (⟨#[92, 10]⟩ : ByteArray)) ++ x8).size + 1 ≤ 9223372036854775807 then (if (((x7 ++ (⟨#[92, 10]⟩ : ByteArray)) ++ x8) ++ (⟨#[10]⟩ : ByteArray)).size + x1.size ≤ 9223372036854775807 then ((scan_Text.f k ((((x7 ++ (⟨#[92, 10]⟩ : ByteArray)) ++ x8) ++ (⟨#[10]⟩ : ByteArray)) ++ x1) 0).bind fun bt154 => (if bt154.2.2 = 0 then (if x0.size + 1 ≤ 9223372036854775807 then (if bt154.1.toList = (x0 ++ (⟨#[10]⟩ : ByteArray)).toList then (runnellaw17_ScanLines.j2 k x1 (bt154.2.1 != (wrap64 ((((((x7 ++ (⟨#[92, 10]⟩ : ByteArray)) ++ x8) ++ (⟨#[10]⟩ : ByteArray)) ++ x1).size : Int) - (x1.size : Int))))) else (runnellaw17_ScanLines.j2 k x1 true)) else (none)) else (runnellaw17_ScanLines.j2 k x1 true))) else (none)) else (none)) else (none)) else (none))
def runnellaw17_ScanLines.j2 : Nat → ByteArray → Bool → Option (Bool)
  | 0, _, _ => none
  | k + 1, x1, x82 => if x82 = true then (some false) else ((scan_Line.f k x1 0).bind fun bt157 => ((scan_Blanks.f k x1 0).bind fun t159 => (if t159 < 0 then (some false) else (if bt157.2 < t159 then (some false) else (if bt157.2 > (x1.size : Int) then (some false) else (if 0 ≤ t159 then (if t159 ≤ bt157.2 then (if bt157.2 ≤ (x1.size : Int) then (if bt157.1.toList = (x1.extract (t159 : Int).toNat (bt157.2 : Int).toNat).toList then (if bt157.2 < (x1.size : Int) then (if 0 ≤ bt157.2 then (if (bt x1 bt157.2) = 10 then ((scan_Word.f k x1 0).bind fun bt160 => (if bt160.2 ≤ bt157.2 then (if (bt160.1.size : Int) ≤ (wrap64 (bt160.2 - t159)) then (if t159 ≤ (wrap64 (t159 + (bt160.1.size : Int))) then (if (wrap64 (t159 + (bt160.1.size : Int))) ≤ (x1.size : Int) then (some (bt160.1.toList == (x1.extract (t159 : Int).toNat ((wrap64 (t159 + (bt160.1.size : Int))) : Int).toNat).toList)) else (none)) else (none)) else (some false)) else (some false))) else (some false)) else (none)) else ((scan_Word.f k x1 0).bind fun bt162 => (if bt162.2 ≤ bt157.2 then (if (bt162.1.size : Int) ≤ (wrap64 (bt162.2 - t159)) then (if t159 ≤ (wrap64 (t159 + (bt162.1.size : Int))) then (if (wrap64 (t159 + (bt162.1.size : Int))) ≤ (x1.size : Int) then (some (bt162.1.toList == (x1.extract (t159 : Int).toNat ((wrap64 (t159 + (bt162.1.size : Int))) : Int).toNat).toList)) else (none)) else (none)) else (some false)) else (some false)))) else (some false)) else (none)) else (none)) else (none)))))))
end
def runnellaw17_ScanLines.f (k : Nat) (a0 : ByteArray) (a1 : ByteArray) (a2 : Int) : Option (Bool) := (runnellaw17_awake.f k).bind fun t153 => (if t153 = true then (runnellaw17_ScanLines.l0 k a0 a1 (⟨#[]⟩ : ByteArray) (⟨#[]⟩ : ByteArray) (Int.tmod a2 4) 0) else (some false))
theorem runnellaw17_ScanLines.mono_l : ∀ k, (∀ y0 y1 y2 y3 y4 y5, LeO (runnellaw17_ScanLines.l0 k y0 y1 y2 y3 y4 y5) (runnellaw17_ScanLines.l0 (k + 1) y0 y1 y2 y3 y4 y5)) ∧ (∀ y0 y1 y2 y3 y4, LeO (runnellaw17_ScanLines.l1 k y0 y1 y2 y3 y4) (runnellaw17_ScanLines.l1 (k + 1) y0 y1 y2 y3 y4)) ∧ (∀ y0 y1, LeO (runnellaw17_ScanLines.j2 k y0 y1) (runnellaw17_ScanLines.j2 (k + 1) y0 y1))
  | 0 => ⟨fun _ _ _ _ _ _ r h => by simp [runnellaw17_ScanLines.l0] at h, fun _ _ _ _ _ r h => by simp [runnellaw17_ScanLines.l1] at h, fun _ _ r h => by simp [runnellaw17_ScanLines.j2] at h⟩
  | k + 1 => by
    obtain ⟨ih0, ih1, ih2⟩ := runnellaw17_ScanLines.mono_l k
    refine ⟨?_, ?_, ?_⟩
    · intro y0 y1 y2 y3 y4 y5
      unfold runnellaw17_ScanLines.l0
      repeat' first
      | (with_reducible exact ih0 _ _ _ _ _ _)
      | (with_reducible exact ih1 _ _ _ _ _)
      | (with_reducible exact ih2 _ _)
      | (with_reducible exact runnellaw17_awake.mono _)
      | (with_reducible exact scan_Blanks.mono _ _ _)
      | (with_reducible exact scan_Line.mono _ _ _)
      | (with_reducible exact scan_Text.mono _ _ _)
      | (with_reducible exact scan_Word.mono _ _ _)
      | (with_reducible exact LeO.refl _)
      | (with_reducible exact LeO.none _)
      | (with_reducible refine LeO.ite ?_ ?_)
      | (with_reducible refine LeO.bind ?_ (fun _ => ?_))
      | exact ih0 _ _ _ _ _ _
      | exact ih1 _ _ _ _ _
      | exact ih2 _ _
      | exact runnellaw17_awake.mono _
      | exact scan_Blanks.mono _ _ _
      | exact scan_Line.mono _ _ _
      | exact scan_Text.mono _ _ _
      | exact scan_Word.mono _ _ _
      | exact LeO.none _
      | refine LeO.ite ?_ ?_
      | refine LeO.bind ?_ (fun _ => ?_)
    · intro y0 y1 y2 y3 y4
      unfold runnellaw17_ScanLines.l1
      repeat' first
      | (with_reducible exact ih0 _ _ _ _ _ _)
      | (with_reducible exact ih1 _ _ _ _ _)
      | (with_reducible exact ih2 _ _)
      | (with_reducible exact runnellaw17_awake.mono _)
      | (with_reducible exact scan_Blanks.mono _ _ _)
      | (with_reducible exact scan_Line.mono _ _ _)
      | (with_reducible exact scan_Text.mono _ _ _)
      | (with_reducible exact scan_Word.mono _ _ _)
      | (with_reducible exact LeO.refl _)
      | (with_reducible exact LeO.none _)
      | (with_reducible refine LeO.ite ?_ ?_)
      | (with_reducible refine LeO.bind ?_ (fun _ => ?_))
      | exact ih0 _ _ _ _ _ _
      | exact ih1 _ _ _ _ _
      | exact ih2 _ _
      | exact runnellaw17_awake.mono _
      | exact scan_Blanks.mono _ _ _
      | exact scan_Line.mono _ _ _
      | exact scan_Text.mono _ _ _
      | exact scan_Word.mono _ _ _
      | exact LeO.none _
      | refine LeO.ite ?_ ?_
      | refine LeO.bind ?_ (fun _ => ?_)
    · intro y0 y1
      unfold runnellaw17_ScanLines.j2
      repeat' first
      | (with_reducible exact ih0 _ _ _ _ _ _)
      | (with_reducible exact ih1 _ _ _ _ _)
      | (with_reducible exact ih2 _ _)
      | (with_reducible exact runnellaw17_awake.mono _)
      | (with_reducible exact scan_Blanks.mono _ _ _)
      | (with_reducible exact scan_Line.mono _ _ _)
      | (with_reducible exact scan_Text.mono _ _ _)
      | (with_reducible exact scan_Word.mono _ _ _)
      | (with_reducible exact LeO.refl _)
      | (with_reducible exact LeO.none _)
      | (with_reducible refine LeO.ite ?_ ?_)
      | (with_reducible refine LeO.bind ?_ (fun _ => ?_))
      | exact ih0 _ _ _ _ _ _
      | exact ih1 _ _ _ _ _
      | exact ih2 _ _
      | exact runnellaw17_awake.mono _
      | exact scan_Blanks.mono _ _ _
      | exact scan_Line.mono _ _ _
      | exact scan_Text.mono _ _ _
      | exact scan_Word.mono _ _ _
      | exact LeO.none _
      | refine LeO.ite ?_ ?_
      | refine LeO.bind ?_ (fun _ => ?_)
theorem runnellaw17_ScanLines.mono : ∀ a0 a1 a2 k, LeO (runnellaw17_ScanLines.f k a0 a1 a2) (runnellaw17_ScanLines.f (k + 1) a0 a1 a2) := by
  intro a0 a1 a2 k
  obtain ⟨ih0, ih1, ih2⟩ := runnellaw17_ScanLines.mono_l k
  unfold runnellaw17_ScanLines.f
  repeat' first
      | (with_reducible exact ih0 _ _ _ _ _ _)
      | (with_reducible exact ih1 _ _ _ _ _)
      | (with_reducible exact ih2 _ _)
      | (with_reducible exact runnellaw17_awake.mono _)
      | (with_reducible exact scan_Blanks.mono _ _ _)
      | (with_reducible exact scan_Line.mono _ _ _)
      | (with_reducible exact scan_Text.mono _ _ _)
      | (with_reducible exact scan_Word.mono _ _ _)
      | (with_reducible exact LeO.refl _)
      | (with_reducible exact LeO.none _)
      | (with_reducible refine LeO.ite ?_ ?_)
      | (with_reducible refine LeO.bind ?_ (fun _ => ?_))
      | exact ih0 _ _ _ _ _ _
      | exact ih1 _ _ _ _ _
      | exact ih2 _ _
      | exact runnellaw17_awake.mono _
      | exact scan_Blanks.mono _ _ _
      | exact scan_Line.mono _ _ _
      | exact scan_Text.mono _ _ _
      | exact scan_Word.mono _ _ _
      | exact LeO.none _
      | refine LeO.ite ?_ ?_
      | refine LeO.bind ?_ (fun _ => ?_)
set_option maxHeartbeats 8000000 in
set_option maxRecDepth 100000 in
theorem runnellaw17_ScanLines.calls (k : Nat) (a0 : ByteArray) (a1 : ByteArray) (a2 : Int) (r : Bool) (w : World) (h : runnellaw17_ScanLines.f k a0 a1 a2 = some r) :
    Calls Tryd.prog 4 #[.string a0, .string a1, .int .u8 a2] w fun e w' => e = .returned (.bool r) ∧ Below w.heap.size w w' := by
  have HB := Aside0.mk (Below.refl w.heap.size w)
  have H : ((runnellaw17_awake.f k).bind fun t153 => (if t153 = true then (runnellaw17_ScanLines.l0 k a0 a1 (⟨#[]⟩ : ByteArray) (⟨#[]⟩ : ByteArray) (Int.tmod a2 4) 0) else (some false))) = some r := h
  clear h
  replace H := Option.bind_eq_some_iff.mp H
  obtain ⟨t153, A40, H⟩ := H
  replace H : (if t153 = true then (runnellaw17_ScanLines.l0 k a0 a1 (⟨#[]⟩ : ByteArray) (⟨#[]⟩ : ByteArray) (Int.tmod a2 4) 0) else (some false)) = some r := H
  have A4 := Aside0.mk A40
  clear A40
  by_cases c5 : t153 = true
  · subst c5
    have H1 : (runnellaw17_ScanLines.l0 k a0 a1 (⟨#[]⟩ : ByteArray) (⟨#[]⟩ : ByteArray) (Int.tmod a2 4) 0) = some r := by rw [if_pos rfl] at H; exact H
    clear H
    have H := H1
    clear H1
    have H' := Aside0.mk H
    clear H
    go_enter Tryd.func4, Tryd.ntmps4
    go_wp2_with (first | ((with_reducible refine gate_callee (f := 11) rfl ?_); refine goesL_ (some 19) rfl rfl Tryd.func11 (by kernel_rfl) rfl #[] rfl (by (try simp only [List.map_toArray, List.map_cons, List.map_nil]); first | done | rfl | (simp only [List.length_drop, List.length_take]; rfl)) ?_; (with_reducible refine (runnellaw17_awake.calls k  true _ A4.out).mono ?_); rintro e w6 ⟨rfl, hb⟩; refine ⟨_, rfl, ?_⟩; have n0_ := Aside0.mk (below_step (by repeat (first | (with_reducible first | exact HB.out | apply below_alloc | apply pw_below_drewN | apply below_drew1) | exact HB.out)) hb); clear HB; have HB := n0_; clear n0_; (try clear hb); (try clear hb2); (try clear hk); (try clear hi)))
    go_loopg [7, 23] k (fun kq v7 v23 w' => ∃ (x7_1 : ByteArray) (x23_1 : Int), v7 = .string x7_1 ∧ v23 = .int .u8 x23_1 ∧ Aside0 (runnellaw17_ScanLines.l0 kq a0 a1 x7_1 (⟨#[]⟩ : ByteArray) (Int.tmod a2 4) x23_1 = some r) ∧ Aside0 (kq ≤ k) ∧ Aside0 (Below w.heap.size w w'))
    case atStart => exact ⟨((⟨#[]⟩ : ByteArray)), (0), (by first | rfl | (simp; done) | (simp [*]; done) | (exfalso; simp only [decide_eq_true_eq] at *; omega)), (by first | rfl | (simp; done) | (simp [*]; done) | (exfalso; simp only [decide_eq_true_eq] at *; omega)), H', ⟨Nat.le_refl _⟩, ⟨by repeat (first | (with_reducible first | exact HB.out | apply below_alloc | apply pw_below_drewN | apply below_drew1) | exact HB.out)⟩⟩
    case round =>
      clear H'
      try clear c1
      try clear p2
      try clear c4
      try clear c5
      obtain ⟨x7_1, x23_1, rfl, rfl, HA, HK1, HB⟩ := hrel
      cases gk with
      | zero => exact absurd HA.out (by simp [runnellaw17_ScanLines.l0])
      | succ k1 =>
        have H := HA.out
        clear HA
        simp only [runnellaw17_ScanLines.l0] at H
        by_cases c7 : x23_1 < (Int.tmod a2 4)
        · rw [if_pos c7] at H
          have c7b0 : decide (x23_1 < (Int.tmod a2 4)) = true := decide_eq_true c7
          clear c7
          by_cases c8 : x7_1.size + 1 ≤ 9223372036854775807
          · rw [if_pos c8] at H
            have c8b0 := eq_true c8
            have c8b1 : decide (x7_1.size + 1 ≤ 9223372036854775807) = true := decide_eq_true c8
            try have c8b2 : (9223372036854775807 < x7_1.size + 1) = False := eq_false (Nat.not_lt.2 c8)
            have H' := Aside0.mk H
            clear H
            go_wp2
            go_roundg k1
            case measure => have := HK1.out; omega
            case rel => exact ⟨(x7_1 ++ (⟨#[32]⟩ : ByteArray)), ((x23_1 + 1) % 256), (by first | rfl | (simp; done) | (simp [*]; done) | (exfalso; simp only [decide_eq_true_eq] at *; omega) | (congr 2; simp only [ByteArray.size_append', ByteArray.size_mk', List.size_toArray, List.length_cons, List.length_nil]; unfold wrap64; omega)), (by first | rfl | (simp; done) | (simp [*]; done) | (exfalso; simp only [decide_eq_true_eq] at *; omega) | (congr 2; simp only [ByteArray.size_append', ByteArray.size_mk', List.size_toArray, List.length_cons, List.length_nil]; unfold wrap64; omega)), H', ⟨by have := HK1.out; omega⟩, ⟨by repeat (first | (with_reducible first | exact HB.out | apply below_alloc | apply pw_below_drewN | apply below_drew1) | exact HB.out)⟩⟩
          · rw [if_neg c8] at H
            exact absurd H (by simp)
        · rw [if_neg c7] at H
          have c7b0 : decide (x23_1 < (Int.tmod a2 4)) = false := decide_eq_false c7
          clear c7
          have H' := Aside0.mk H
          clear H
          go_wp2
          go_loopg [8, 9] k1 (fun kq v8 v9 w' => ∃ (x8_2 : ByteArray) (x9_2 : Int), v8 = .string x8_2 ∧ v9 = .int .i64 x9_2 ∧ Aside0 (runnellaw17_ScanLines.l1 kq a0 a1 x7_1 x8_2 x9_2 = some r) ∧ Aside0 (kq ≤ k1) ∧ Aside0 (Below w.heap.size w w'))
          case atStart => exact ⟨((⟨#[]⟩ : ByteArray)), (0), (by first | rfl | (simp; done) | (simp [*]; done) | (exfalso; simp only [decide_eq_true_eq] at *; omega)), (by first | rfl | (simp; done) | (simp [*]; done) | (exfalso; simp only [decide_eq_true_eq] at *; omega)), H', ⟨Nat.le_refl _⟩, ⟨by repeat (first | (with_reducible first | exact HB.out | apply below_alloc | apply pw_below_drewN | apply below_drew1) | exact HB.out)⟩⟩
          case round =>
            clear H'
            try clear c1
            try clear p2
            try clear c4
            try clear c5
            try clear c7
            try clear c7b0
            try clear c8
            try clear c8b0
            try clear c8b1
            try clear c8b2
            try clear p2
            obtain ⟨x8_2, x9_2, rfl, rfl, HA, HK2, HB⟩ := hrel
            cases gk with
            | zero => exact absurd HA.out (by simp [runnellaw17_ScanLines.l1])
            | succ k2 =>
              have H := HA.out
              clear HA
              simp only [runnellaw17_ScanLines.l1] at H
              by_cases c9 : x9_2 < (a0.size : Int)
              · rw [if_pos c9] at H
                have c9b0 : decide (x9_2 < (a0.size : Int)) = true := decide_eq_true c9
                clear c9
                by_cases c10 : 0 ≤ x9_2
                · rw [if_pos c10] at H
                  have c10b0 : decide (0 ≤ x9_2) = true := decide_eq_true c10
                  clear c10
                  by_cases c12 : (bt a0 x9_2) = 10
                  · rw [if_pos c12] at H
                    have c12b0 : ((bt a0 x9_2) == 10) = true := beq_iff_eq.mpr c12
                    have c12b1 : ((bt a0 x9_2) != 10) = false := bne_eq_false_iff_eq.mpr c12
                    clear c12
                    by_cases c13 : x8_2.size + 1 ≤ 9223372036854775807
                    · rw [if_pos c13] at H
                      have c13b0 := eq_true c13
                      have c13b1 : decide (x8_2.size + 1 ≤ 9223372036854775807) = true := decide_eq_true c13
                      try have c13b2 : (9223372036854775807 < x8_2.size + 1) = False := eq_false (Nat.not_lt.2 c13)
                      have c14b0 := eq_true (of_decide_eq_true (by first | (with_reducible assumption) | assumption) : 0 ≤ x9_2)
                      by_cases c15 : x9_2 ≤ (wrap64 (x9_2 + 1))
                      · rw [if_pos c15] at H
                        have c15b0 := eq_true c15
                        have c15b1 : decide (x9_2 ≤ (wrap64 (x9_2 + 1))) = true := decide_eq_true c15
                        by_cases c16 : (wrap64 (x9_2 + 1)) ≤ (a0.size : Int)
                        · rw [if_pos c16] at H
                          have c16b0 := eq_true c16
                          have c16b1 : decide ((wrap64 (x9_2 + 1)) ≤ (a0.size : Int)) = true := decide_eq_true c16
                          by_cases c17 : (x8_2 ++ (⟨#[92]⟩ : ByteArray)).size + (a0.extract (x9_2 : Int).toNat ((wrap64 (x9_2 + 1)) : Int).toNat).size ≤ 9223372036854775807
                          · rw [if_pos c17] at H
                            have c17b0 := eq_true c17
                            have c17b1 : decide ((x8_2 ++ (⟨#[92]⟩ : ByteArray)).size + (a0.extract (x9_2 : Int).toNat ((wrap64 (x9_2 + 1)) : Int).toNat).size ≤ 9223372036854775807) = true := decide_eq_true c17
                            try have c17b2 : (9223372036854775807 < (x8_2 ++ (⟨#[92]⟩ : ByteArray)).size + (a0.extract (x9_2 : Int).toNat ((wrap64 (x9_2 + 1)) : Int).toNat).size) = False := eq_false (Nat.not_lt.2 c17)
                            (try (have c17b3 := c17; simp only [ByteArray.size_append', ByteArray.size_mk', ByteArray.size_extract, List.size_toArray, List.length_cons, List.length_nil, Nat.reduceAdd] at c17b3; have c17b4 := eq_true c17b3; have c17b5 := eq_false (Nat.not_lt.2 c17b3)))
                            have H' := Aside0.mk H
                            clear H
                            have p11 : 0 ≤ (x9_2 : Int) := of_decide_eq_true (by first | (with_reducible assumption) | assumption)
                            have q11 : x9_2 < (a0.size : Int) := of_decide_eq_true (by first | (with_reducible assumption) | assumption)
                            have hx11 := bt_at a0 x9_2
                            replace p11 := eq_true p11
                            replace q11 := eq_true q11
                            go_wp2
                            go_roundg k2
                            case measure => have := HK1.out; have := HK2.out; omega
                            case rel => exact ⟨((x8_2 ++ (⟨#[92]⟩ : ByteArray)) ++ (a0.extract (x9_2 : Int).toNat ((wrap64 (x9_2 + 1)) : Int).toNat)), (wrap64 (x9_2 + 1)), (by first | rfl | (simp; done) | (simp [*]; done) | (exfalso; simp only [decide_eq_true_eq] at *; omega) | (congr 2; simp only [ByteArray.size_append', ByteArray.size_mk', List.size_toArray, List.length_cons, List.length_nil]; unfold wrap64; omega)), (by first | rfl | (simp; done) | (simp [*]; done) | (exfalso; simp only [decide_eq_true_eq] at *; omega) | (congr 2; simp only [ByteArray.size_append', ByteArray.size_mk', List.size_toArray, List.length_cons, List.length_nil]; unfold wrap64; omega)), H', ⟨by have := HK1.out; have := HK2.out; omega⟩, ⟨by repeat (first | (with_reducible first | exact HB.out | apply below_alloc | apply pw_below_drewN | apply below_drew1) | exact HB.out)⟩⟩
                          · rw [if_neg c17] at H
                            exact absurd H (by simp)
                        · rw [if_neg c16] at H
                          exact absurd H (by simp)
                      · rw [if_neg c15] at H
                        exact absurd H (by simp)
                    · rw [if_neg c13] at H
                      exact absurd H (by simp)
                  · rw [if_neg c12] at H
                    have c12b0 : ((bt a0 x9_2) == 10) = false := beq_eq_false_iff_ne.mpr c12
                    have c12b1 : ((bt a0 x9_2) != 10) = true := bne_iff_ne.mpr c12
                    by_cases c19 : (bt a0 x9_2) = 92
                    · rw [if_pos c19] at H
                      have c19b0 : ((bt a0 x9_2) == 92) = true := beq_iff_eq.mpr c19
                      have c19b1 : ((bt a0 x9_2) != 92) = false := bne_eq_false_iff_eq.mpr c19
                      clear c19
                      by_cases c20 : x8_2.size + 1 ≤ 9223372036854775807
                      · rw [if_pos c20] at H
                        have c20b0 := eq_true c20
                        have c20b1 : decide (x8_2.size + 1 ≤ 9223372036854775807) = true := decide_eq_true c20
                        try have c20b2 : (9223372036854775807 < x8_2.size + 1) = False := eq_false (Nat.not_lt.2 c20)
                        have c21b0 := eq_true (of_decide_eq_true (by first | (with_reducible assumption) | assumption) : 0 ≤ x9_2)
                        by_cases c22 : x9_2 ≤ (wrap64 (x9_2 + 1))
                        · rw [if_pos c22] at H
                          have c22b0 := eq_true c22
                          have c22b1 : decide (x9_2 ≤ (wrap64 (x9_2 + 1))) = true := decide_eq_true c22
                          by_cases c23 : (wrap64 (x9_2 + 1)) ≤ (a0.size : Int)
                          · rw [if_pos c23] at H
                            have c23b0 := eq_true c23
                            have c23b1 : decide ((wrap64 (x9_2 + 1)) ≤ (a0.size : Int)) = true := decide_eq_true c23
                            by_cases c24 : (x8_2 ++ (⟨#[92]⟩ : ByteArray)).size + (a0.extract (x9_2 : Int).toNat ((wrap64 (x9_2 + 1)) : Int).toNat).size ≤ 9223372036854775807
                            · rw [if_pos c24] at H
                              have c24b0 := eq_true c24
                              have c24b1 : decide ((x8_2 ++ (⟨#[92]⟩ : ByteArray)).size + (a0.extract (x9_2 : Int).toNat ((wrap64 (x9_2 + 1)) : Int).toNat).size ≤ 9223372036854775807) = true := decide_eq_true c24
                              try have c24b2 : (9223372036854775807 < (x8_2 ++ (⟨#[92]⟩ : ByteArray)).size + (a0.extract (x9_2 : Int).toNat ((wrap64 (x9_2 + 1)) : Int).toNat).size) = False := eq_false (Nat.not_lt.2 c24)
                              (try (have c24b3 := c24; simp only [ByteArray.size_append', ByteArray.size_mk', ByteArray.size_extract, List.size_toArray, List.length_cons, List.length_nil, Nat.reduceAdd] at c24b3; have c24b4 := eq_true c24b3; have c24b5 := eq_false (Nat.not_lt.2 c24b3)))
                              have H' := Aside0.mk H
                              clear H
                              have p11 : 0 ≤ (x9_2 : Int) := of_decide_eq_true (by first | (with_reducible assumption) | assumption)
                              have q11 : x9_2 < (a0.size : Int) := of_decide_eq_true (by first | (with_reducible assumption) | assumption)
                              have hx11 := bt_at a0 x9_2
                              replace p11 := eq_true p11
                              replace q11 := eq_true q11
                              have p18 : 0 ≤ (x9_2 : Int) := of_decide_eq_true (by first | (with_reducible assumption) | assumption)
                              have q18 : x9_2 < (a0.size : Int) := of_decide_eq_true (by first | (with_reducible assumption) | assumption)
                              have hx18 := bt_at a0 x9_2
                              replace p18 := eq_true p18
                              replace q18 := eq_true q18
                              go_wp2
                              go_roundg k2
                              case measure => have := HK1.out; have := HK2.out; omega
                              case rel => exact ⟨((x8_2 ++ (⟨#[92]⟩ : ByteArray)) ++ (a0.extract (x9_2 : Int).toNat ((wrap64 (x9_2 + 1)) : Int).toNat)), (wrap64 (x9_2 + 1)), (by first | rfl | (simp; done) | (simp [*]; done) | (exfalso; simp only [decide_eq_true_eq] at *; omega) | (congr 2; simp only [ByteArray.size_append', ByteArray.size_mk', List.size_toArray, List.length_cons, List.length_nil]; unfold wrap64; omega)), (by first | rfl | (simp; done) | (simp [*]; done) | (exfalso; simp only [decide_eq_true_eq] at *; omega) | (congr 2; simp only [ByteArray.size_append', ByteArray.size_mk', List.size_toArray, List.length_cons, List.length_nil]; unfold wrap64; omega)), H', ⟨by have := HK1.out; have := HK2.out; omega⟩, ⟨by repeat (first | (with_reducible first | exact HB.out | apply below_alloc | apply pw_below_drewN | apply below_drew1) | exact HB.out)⟩⟩
                            · rw [if_neg c24] at H
                              exact absurd H (by simp)
                          · rw [if_neg c23] at H
                            exact absurd H (by simp)
                        · rw [if_neg c22] at H
                          exact absurd H (by simp)
                      · rw [if_neg c20] at H
                        exact absurd H (by simp)
                    · rw [if_neg c19] at H
                      have c19b0 : ((bt a0 x9_2) == 92) = false := beq_eq_false_iff_ne.mpr c19
                      have c19b1 : ((bt a0 x9_2) != 92) = true := bne_iff_ne.mpr c19
                      have c25b0 := eq_true (of_decide_eq_true (by first | (with_reducible assumption) | assumption) : 0 ≤ x9_2)
                      by_cases c26 : x9_2 ≤ (wrap64 (x9_2 + 1))
                      · rw [if_pos c26] at H
                        have c26b0 := eq_true c26
                        have c26b1 : decide (x9_2 ≤ (wrap64 (x9_2 + 1))) = true := decide_eq_true c26
                        by_cases c27 : (wrap64 (x9_2 + 1)) ≤ (a0.size : Int)
                        · rw [if_pos c27] at H
                          have c27b0 := eq_true c27
                          have c27b1 : decide ((wrap64 (x9_2 + 1)) ≤ (a0.size : Int)) = true := decide_eq_true c27
                          by_cases c28 : x8_2.size + (a0.extract (x9_2 : Int).toNat ((wrap64 (x9_2 + 1)) : Int).toNat).size ≤ 9223372036854775807
                          · rw [if_pos c28] at H
                            have c28b0 := eq_true c28
                            have c28b1 : decide (x8_2.size + (a0.extract (x9_2 : Int).toNat ((wrap64 (x9_2 + 1)) : Int).toNat).size ≤ 9223372036854775807) = true := decide_eq_true c28
                            try have c28b2 : (9223372036854775807 < x8_2.size + (a0.extract (x9_2 : Int).toNat ((wrap64 (x9_2 + 1)) : Int).toNat).size) = False := eq_false (Nat.not_lt.2 c28)
                            (try (have c28b3 := c28; simp only [ByteArray.size_append', ByteArray.size_mk', ByteArray.size_extract, List.size_toArray, List.length_cons, List.length_nil, Nat.reduceAdd] at c28b3; have c28b4 := eq_true c28b3; have c28b5 := eq_false (Nat.not_lt.2 c28b3)))
                            have H' := Aside0.mk H
                            clear H
                            have p11 : 0 ≤ (x9_2 : Int) := of_decide_eq_true (by first | (with_reducible assumption) | assumption)
                            have q11 : x9_2 < (a0.size : Int) := of_decide_eq_true (by first | (with_reducible assumption) | assumption)
                            have hx11 := bt_at a0 x9_2
                            replace p11 := eq_true p11
                            replace q11 := eq_true q11
                            have p18 : 0 ≤ (x9_2 : Int) := of_decide_eq_true (by first | (with_reducible assumption) | assumption)
                            have q18 : x9_2 < (a0.size : Int) := of_decide_eq_true (by first | (with_reducible assumption) | assumption)
                            have hx18 := bt_at a0 x9_2
                            replace p18 := eq_true p18
                            replace q18 := eq_true q18
                            go_wp2
                            go_roundg k2
                            case measure => have := HK1.out; have := HK2.out; omega
                            case rel => exact ⟨(x8_2 ++ (a0.extract (x9_2 : Int).toNat ((wrap64 (x9_2 + 1)) : Int).toNat)), (wrap64 (x9_2 + 1)), (by first | rfl | (simp; done) | (simp [*]; done) | (exfalso; simp only [decide_eq_true_eq] at *; omega)), (by first | rfl | (simp; done) | (simp [*]; done) | (exfalso; simp only [decide_eq_true_eq] at *; omega)), H', ⟨by have := HK1.out; have := HK2.out; omega⟩, ⟨by repeat (first | (with_reducible first | exact HB.out | apply below_alloc | apply pw_below_drewN | apply below_drew1) | exact HB.out)⟩⟩
                          · rw [if_neg c28] at H
                            exact absurd H (by simp)
                        · rw [if_neg c27] at H
                          exact absurd H (by simp)
                      · rw [if_neg c26] at H
                        exact absurd H (by simp)
                · rw [if_neg c10] at H
                  exact absurd H (by simp)
              · rw [if_neg c9] at H
                have c9b0 : decide (x9_2 < (a0.size : Int)) = false := decide_eq_false c9
                clear c9
                by_cases c29 : x7_1.size + 2 ≤ 9223372036854775807
                · rw [if_pos c29] at H
                  have c29b0 := eq_true c29
                  have c29b1 : decide (x7_1.size + 2 ≤ 9223372036854775807) = true := decide_eq_true c29
                  try have c29b2 : (9223372036854775807 < x7_1.size + 2) = False := eq_false (Nat.not_lt.2 c29)
                  by_cases c30 : (x7_1 ++ (⟨#[92, 10]⟩ : ByteArray)).size + x8_2.size ≤ 9223372036854775807
                  · rw [if_pos c30] at H
                    have c30b0 := eq_true c30
                    have c30b1 : decide ((x7_1 ++ (⟨#[92, 10]⟩ : ByteArray)).size + x8_2.size ≤ 9223372036854775807) = true := decide_eq_true c30
                    try have c30b2 : (9223372036854775807 < (x7_1 ++ (⟨#[92, 10]⟩ : ByteArray)).size + x8_2.size) = False := eq_false (Nat.not_lt.2 c30)
                    (try (have c30b3 := c30; simp only [ByteArray.size_append', ByteArray.size_mk', ByteArray.size_extract, List.size_toArray, List.length_cons, List.length_nil, Nat.reduceAdd] at c30b3; have c30b4 := eq_true c30b3; have c30b5 := eq_false (Nat.not_lt.2 c30b3)))
                    by_cases c31 : ((x7_1 ++ (⟨#[92, 10]⟩ : ByteArray)) ++ x8_2).size + 1 ≤ 9223372036854775807
                    · rw [if_pos c31] at H
                      have c31b0 := eq_true c31
                      have c31b1 : decide (((x7_1 ++ (⟨#[92, 10]⟩ : ByteArray)) ++ x8_2).size + 1 ≤ 9223372036854775807) = true := decide_eq_true c31
                      try have c31b2 : (9223372036854775807 < ((x7_1 ++ (⟨#[92, 10]⟩ : ByteArray)) ++ x8_2).size + 1) = False := eq_false (Nat.not_lt.2 c31)
                      (try (have c31b3 := c31; simp only [ByteArray.size_append', ByteArray.size_mk', ByteArray.size_extract, List.size_toArray, List.length_cons, List.length_nil, Nat.reduceAdd] at c31b3; have c31b4 := eq_true c31b3; have c31b5 := eq_false (Nat.not_lt.2 c31b3)))
                      by_cases c32 : (((x7_1 ++ (⟨#[92, 10]⟩ : ByteArray)) ++ x8_2) ++ (⟨#[10]⟩ : ByteArray)).size + a1.size ≤ 9223372036854775807
                      · rw [if_pos c32] at H
                        have c32b0 := eq_true c32
                        have c32b1 : decide ((((x7_1 ++ (⟨#[92, 10]⟩ : ByteArray)) ++ x8_2) ++ (⟨#[10]⟩ : ByteArray)).size + a1.size ≤ 9223372036854775807) = true := decide_eq_true c32
                        try have c32b2 : (9223372036854775807 < (((x7_1 ++ (⟨#[92, 10]⟩ : ByteArray)) ++ x8_2) ++ (⟨#[10]⟩ : ByteArray)).size + a1.size) = False := eq_false (Nat.not_lt.2 c32)
                        (try (have c32b3 := c32; simp only [ByteArray.size_append', ByteArray.size_mk', ByteArray.size_extract, List.size_toArray, List.length_cons, List.length_nil, Nat.reduceAdd] at c32b3; have c32b4 := eq_true c32b3; have c32b5 := eq_false (Nat.not_lt.2 c32b3)))
                        replace H := Option.bind_eq_some_iff.mp H
                        obtain ⟨⟨t154, t155, t156⟩, A330, H⟩ := H
                        replace H : (if t156 = 0 then (if a0.size + 1 ≤ 9223372036854775807 then (if t154.toList = (a0 ++ (⟨#[10]⟩ : ByteArray)).toList then (runnellaw17_ScanLines.j2 k2 a1 (t155 != (wrap64 ((((((x7_1 ++ (⟨#[92, 10]⟩ : ByteArray)) ++ x8_2) ++ (⟨#[10]⟩ : ByteArray)) ++ a1).size : Int) - (a1.size : Int))))) else (runnellaw17_ScanLines.j2 k2 a1 true)) else (none)) else (runnellaw17_ScanLines.j2 k2 a1 true)) = some r := H
                        have A33 := Aside0.mk A330
                        clear A330
                        have HC34 := Aside0.mk H
                        clear H
                        go_upto_region 16 with (first | ((with_reducible refine gate_callee (f := 14) rfl ?_); refine goesL_ (some 62) rfl rfl Tryd.func14 (by kernel_rfl) rfl #[.string ((((x7_1 ++ (⟨#[92, 10]⟩ : ByteArray)) ++ x8_2) ++ (⟨#[10]⟩ : ByteArray)) ++ a1), .int .i64 0] rfl (by (try simp only [List.map_toArray, List.map_cons, List.map_nil]); first | done | rfl | (simp only [List.length_drop, List.length_take]; rfl)) ?_; (with_reducible refine (scan_Text.calls k2 ((((x7_1 ++ (⟨#[92, 10]⟩ : ByteArray)) ++ x8_2) ++ (⟨#[10]⟩ : ByteArray)) ++ a1) 0 t154 t155 t156 _ A33.out).mono ?_); rintro e w35 ⟨rfl, hb⟩; refine ⟨_, rfl, ?_⟩; have n0_ := Aside0.mk (below_step (by repeat (first | (with_reducible first | exact HB.out | apply below_alloc | apply pw_below_drewN | apply below_drew1) | exact HB.out)) hb); clear HB; have HB := n0_; clear n0_; (try clear hb); (try clear hb2); (try clear hk); (try clear hi)))
                        (try simp only [Act.put, List.setIfInBounds_toArray, List.set_cons_zero, List.set_cons_succ])
                        go_cut [82] (fun v82 wc => ∃ (kq : Nat) (x82_33 : Bool), v82 = .bool x82_33 ∧ Aside0 (runnellaw17_ScanLines.j2 kq a1 x82_33 = some r) ∧ Aside0 (kq ≤ k2) ∧ Aside0 (Below w.heap.size w wc))
                        case first =>
                          have H := HC34.out
                          clear HC34
                          by_cases c36 : t156 = 0
                          · rw [if_pos c36] at H
                            have c36b0 : (t156 == 0) = true := beq_iff_eq.mpr c36
                            have c36b1 : (t156 != 0) = false := bne_eq_false_iff_eq.mpr c36
                            clear c36
                            (first | rw [c36b0] | (simp only [i64_w, i32_w]; rw [c36b0]) | skip)
                            by_cases c37 : a0.size + 1 ≤ 9223372036854775807
                            · rw [if_pos c37] at H
                              have c37b0 := eq_true c37
                              have c37b1 : decide (a0.size + 1 ≤ 9223372036854775807) = true := decide_eq_true c37
                              try have c37b2 : (9223372036854775807 < a0.size + 1) = False := eq_false (Nat.not_lt.2 c37)
                              by_cases c38 : t154.toList = (a0 ++ (⟨#[10]⟩ : ByteArray)).toList
                              · rw [if_pos c38] at H
                                have c38b0 : (t154.toList == (a0 ++ (⟨#[10]⟩ : ByteArray)).toList) = true := beq_iff_eq.mpr c38
                                have c38b1 : (t154.toList != (a0 ++ (⟨#[10]⟩ : ByteArray)).toList) = false := bne_eq_false_iff_eq.mpr c38
                                clear c38
                                have H' := Aside0.mk H
                                clear H
                                go_wp2
                                go_meet
                                case rel => exact ⟨_, ((t155 != (wrap64 ((((((x7_1 ++ (⟨#[92, 10]⟩ : ByteArray)) ++ x8_2) ++ (⟨#[10]⟩ : ByteArray)) ++ a1).size : Int) - (a1.size : Int))))), (by first | rfl | (simp; done) | (simp [*]; done) | (exfalso; simp only [decide_eq_true_eq] at *; omega) | (congr 2; simp only [ByteArray.size_append', ByteArray.size_mk', List.size_toArray, List.length_cons, List.length_nil]; unfold wrap64; omega)), H', ⟨by have := HK1.out; have := HK2.out; first | omega | exact Nat.le_refl _⟩, ⟨by repeat (first | (with_reducible first | exact HB.out | apply below_alloc | apply pw_below_drewN | apply below_drew1) | exact HB.out)⟩⟩
                              · rw [if_neg c38] at H
                                have c38b0 : (t154.toList == (a0 ++ (⟨#[10]⟩ : ByteArray)).toList) = false := beq_eq_false_iff_ne.mpr c38
                                have c38b1 : (t154.toList != (a0 ++ (⟨#[10]⟩ : ByteArray)).toList) = true := bne_iff_ne.mpr c38
                                have H' := Aside0.mk H
                                clear H
                                go_wp2
                                go_meet
                                case rel => exact ⟨_, (true), (by first | rfl | (simp; done) | (simp [*]; done) | (exfalso; simp only [decide_eq_true_eq] at *; omega)), H', ⟨by have := HK1.out; have := HK2.out; first | omega | exact Nat.le_refl _⟩, ⟨by repeat (first | (with_reducible first | exact HB.out | apply below_alloc | apply pw_below_drewN | apply below_drew1) | exact HB.out)⟩⟩
                            · rw [if_neg c37] at H
                              exact absurd H (by simp)
                          · rw [if_neg c36] at H
                            have c36b0 : (t156 == 0) = false := beq_eq_false_iff_ne.mpr c36
                            have c36b1 : (t156 != 0) = true := bne_iff_ne.mpr c36
                            (first | rw [c36b0] | (simp only [i64_w, i32_w]; rw [c36b0]) | skip)
                            have H' := Aside0.mk H
                            clear H
                            go_wp2
                            go_meet
                            case rel => exact ⟨_, (true), (by first | rfl | (simp; done) | (simp [*]; done) | (exfalso; simp only [decide_eq_true_eq] at *; omega)), H', ⟨by have := HK1.out; have := HK2.out; first | omega | exact Nat.le_refl _⟩, ⟨by repeat (first | (with_reducible first | exact HB.out | apply below_alloc | apply pw_below_drewN | apply below_drew1) | exact HB.out)⟩⟩
                        case rest =>
                          clear HC34
                          try clear c1
                          try clear p1
                          try clear q1
                          try clear hx1
                          try clear c2
                          try clear p2
                          try clear c3
                          try clear c4
                          try clear c5
                          try clear p6
                          try clear c7
                          try clear c7b0
                          try clear c8
                          try clear c8b0
                          try clear c8b1
                          try clear c8b2
                          try clear c9
                          try clear c9b0
                          try clear c10
                          try clear c10b0
                          try clear c11
                          try clear p11
                          try clear q11
                          try clear hx11
                          try clear c12
                          try clear c12b0
                          try clear c12b1
                          try clear c13
                          try clear c13b0
                          try clear c13b1
                          try clear c13b2
                          try clear c14
                          try clear c14b0
                          try clear c15
                          try clear c15b0
                          try clear c15b1
                          try clear c16
                          try clear c16b0
                          try clear c16b1
                          try clear c17
                          try clear c17b0
                          try clear c17b1
                          try clear c17b2
                          try clear p18
                          try clear q18
                          try clear hx18
                          try clear c19
                          try clear c19b0
                          try clear c19b1
                          try clear c20
                          try clear c20b0
                          try clear c20b1
                          try clear c20b2
                          try clear c21
                          try clear c21b0
                          try clear c22
                          try clear c22b0
                          try clear c22b1
                          try clear c23
                          try clear c23b0
                          try clear c23b1
                          try clear c24
                          try clear c24b0
                          try clear c24b1
                          try clear c24b2
                          try clear c25
                          try clear c25b0
                          try clear c26
                          try clear c26b0
                          try clear c26b1
                          try clear c27
                          try clear c27b0
                          try clear c27b1
                          try clear c28
                          try clear c28b0
                          try clear c28b1
                          try clear c28b2
                          try clear c29
                          try clear c29b0
                          try clear c29b1
                          try clear c29b2
                          try clear c30
                          try clear c30b0
                          try clear c30b1
                          try clear c30b2
                          try clear c31
                          try clear c31b0
                          try clear c31b1
                          try clear c31b2
                          try clear c32
                          try clear c32b0
                          try clear c32b1
                          try clear c32b2
                          try clear c36
                          try clear c36b0
                          try clear c36b1
                          try clear c37
                          try clear c37b0
                          try clear c37b1
                          try clear c37b2
                          try clear c38
                          try clear c38b0
                          try clear c38b1
                          try clear p11
                          try clear p18
                          try clear p2
                          try clear q11
                          try clear q18
                          obtain ⟨kq, x82_33, rfl, HA, HJ33, HB⟩ := hcut
                          cases kq with
                          | zero => exact absurd HA.out (by simp [runnellaw17_ScanLines.j2])
                          | succ kj33 =>
                            have H := HA.out
                            clear HA
                            simp only [runnellaw17_ScanLines.j2] at H
                            by_cases c39 : x82_33 = true
                            · subst c39
                              have H1 : (some false) = some r := by rw [if_pos rfl] at H; exact H
                              clear H
                              have H := H1
                              clear H1
                              obtain rfl := Option.some.inj H
                              go_wp2
                              go_ret
                              exact ⟨by first | rfl | (simp only [wrap_wrap]; done) | (simp only [wrap_wrap]; rfl) | (simp [errW_none, errW_some] <;> rfl) | (simp [*, errW_none, errW_some] <;> rfl), by repeat (first | (with_reducible first | exact HB.out | apply below_alloc | apply pw_below_drewN | apply below_drew1) | exact HB.out)⟩
                            · replace c39 := Bool.eq_false_iff.mpr c39
                              subst c39
                              have H1 : ((scan_Line.f kj33 a1 0).bind fun bt157 => ((scan_Blanks.f kj33 a1 0).bind fun t159 => (if t159 < 0 then (some false) else (if bt157.2 < t159 then (some false) else (if bt157.2 > (a1.size : Int) then (some false) else (if 0 ≤ t159 then (if t159 ≤ bt157.2 then (if bt157.2 ≤ (a1.size : Int) then (if bt157.1.toList = (a1.extract (t159 : Int).toNat (bt157.2 : Int).toNat).toList then (if bt157.2 < (a1.size : Int) then (if 0 ≤ bt157.2 then (if (bt a1 bt157.2) = 10 then ((scan_Word.f kj33 a1 0).bind fun bt160 => (if bt160.2 ≤ bt157.2 then (if (bt160.1.size : Int) ≤ (wrap64 (bt160.2 - t159)) then (if t159 ≤ (wrap64 (t159 + (bt160.1.size : Int))) then (if (wrap64 (t159 + (bt160.1.size : Int))) ≤ (a1.size : Int) then (some (bt160.1.toList == (a1.extract (t159 : Int).toNat ((wrap64 (t159 + (bt160.1.size : Int))) : Int).toNat).toList)) else (none)) else (none)) else (some false)) else (some false))) else (some false)) else (none)) else ((scan_Word.f kj33 a1 0).bind fun bt162 => (if bt162.2 ≤ bt157.2 then (if (bt162.1.size : Int) ≤ (wrap64 (bt162.2 - t159)) then (if t159 ≤ (wrap64 (t159 + (bt162.1.size : Int))) then (if (wrap64 (t159 + (bt162.1.size : Int))) ≤ (a1.size : Int) then (some (bt162.1.toList == (a1.extract (t159 : Int).toNat ((wrap64 (t159 + (bt162.1.size : Int))) : Int).toNat).toList)) else (none)) else (none)) else (some false)) else (some false)))) else (some false)) else (none)) else (none)) else (none))))))) = some r := by rw [if_neg (show ¬ (false = true) by decide)] at H; exact H
                              clear H
                              have H := H1
                              clear H1
                              replace H := Option.bind_eq_some_iff.mp H
                              obtain ⟨⟨t157, t158⟩, A400, H⟩ := H
                              replace H : ((scan_Blanks.f kj33 a1 0).bind fun t159 => (if t159 < 0 then (some false) else (if t158 < t159 then (some false) else (if t158 > (a1.size : Int) then (some false) else (if 0 ≤ t159 then (if t159 ≤ t158 then (if t158 ≤ (a1.size : Int) then (if t157.toList = (a1.extract (t159 : Int).toNat (t158 : Int).toNat).toList then (if t158 < (a1.size : Int) then (if 0 ≤ t158 then (if (bt a1 t158) = 10 then ((scan_Word.f kj33 a1 0).bind fun bt160 => (if bt160.2 ≤ t158 then (if (bt160.1.size : Int) ≤ (wrap64 (bt160.2 - t159)) then (if t159 ≤ (wrap64 (t159 + (bt160.1.size : Int))) then (if (wrap64 (t159 + (bt160.1.size : Int))) ≤ (a1.size : Int) then (some (bt160.1.toList == (a1.extract (t159 : Int).toNat ((wrap64 (t159 + (bt160.1.size : Int))) : Int).toNat).toList)) else (none)) else (none)) else (some false)) else (some false))) else (some false)) else (none)) else ((scan_Word.f kj33 a1 0).bind fun bt162 => (if bt162.2 ≤ t158 then (if (bt162.1.size : Int) ≤ (wrap64 (bt162.2 - t159)) then (if t159 ≤ (wrap64 (t159 + (bt162.1.size : Int))) then (if (wrap64 (t159 + (bt162.1.size : Int))) ≤ (a1.size : Int) then (some (bt162.1.toList == (a1.extract (t159 : Int).toNat ((wrap64 (t159 + (bt162.1.size : Int))) : Int).toNat).toList)) else (none)) else (none)) else (some false)) else (some false)))) else (some false)) else (none)) else (none)) else (none)))))) = some r := H
                              have A40 := Aside0.mk A400
                              clear A400
                              replace H := Option.bind_eq_some_iff.mp H
                              obtain ⟨t159, A410, H⟩ := H
                              replace H : (if t159 < 0 then (some false) else (if t158 < t159 then (some false) else (if t158 > (a1.size : Int) then (some false) else (if 0 ≤ t159 then (if t159 ≤ t158 then (if t158 ≤ (a1.size : Int) then (if t157.toList = (a1.extract (t159 : Int).toNat (t158 : Int).toNat).toList then (if t158 < (a1.size : Int) then (if 0 ≤ t158 then (if (bt a1 t158) = 10 then ((scan_Word.f kj33 a1 0).bind fun bt160 => (if bt160.2 ≤ t158 then (if (bt160.1.size : Int) ≤ (wrap64 (bt160.2 - t159)) then (if t159 ≤ (wrap64 (t159 + (bt160.1.size : Int))) then (if (wrap64 (t159 + (bt160.1.size : Int))) ≤ (a1.size : Int) then (some (bt160.1.toList == (a1.extract (t159 : Int).toNat ((wrap64 (t159 + (bt160.1.size : Int))) : Int).toNat).toList)) else (none)) else (none)) else (some false)) else (some false))) else (some false)) else (none)) else ((scan_Word.f kj33 a1 0).bind fun bt162 => (if bt162.2 ≤ t158 then (if (bt162.1.size : Int) ≤ (wrap64 (bt162.2 - t159)) then (if t159 ≤ (wrap64 (t159 + (bt162.1.size : Int))) then (if (wrap64 (t159 + (bt162.1.size : Int))) ≤ (a1.size : Int) then (some (bt162.1.toList == (a1.extract (t159 : Int).toNat ((wrap64 (t159 + (bt162.1.size : Int))) : Int).toNat).toList)) else (none)) else (none)) else (some false)) else (some false)))) else (some false)) else (none)) else (none)) else (none))))) = some r := H
                              have A41 := Aside0.mk A410
                              clear A410
                              by_cases c42 : t159 < 0
                              · rw [if_pos c42] at H
                                have c42b0 : decide (t159 < 0) = true := decide_eq_true c42
                                clear c42
                                obtain rfl := Option.some.inj H
                                go_wp2_with (first | ((with_reducible refine gate_callee (f := 7) rfl ?_); refine goesL_ (some 85) rfl rfl Tryd.func7 (by kernel_rfl) rfl #[.string a1, .int .i64 0] rfl (by (try simp only [List.map_toArray, List.map_cons, List.map_nil]); first | done | rfl | (simp only [List.length_drop, List.length_take]; rfl)) ?_; (with_reducible refine (scan_Line.calls kj33 a1 0 t157 t158 _ A40.out).mono ?_); rintro e w43 ⟨rfl, hb⟩; refine ⟨_, rfl, ?_⟩; have n0_ := Aside0.mk (below_step (by repeat (first | (with_reducible first | exact HB.out | apply below_alloc | apply pw_below_drewN | apply below_drew1) | exact HB.out)) hb); clear HB; have HB := n0_; clear n0_; (try clear hb); (try clear hb2); (try clear hk); (try clear hi)) | ((with_reducible refine gate_callee (f := 15) rfl ?_); refine goesL_ (some 89) rfl rfl Tryd.func15 (by kernel_rfl) rfl #[.string a1, .int .i64 0] rfl (by (try simp only [List.map_toArray, List.map_cons, List.map_nil]); first | done | rfl | (simp only [List.length_drop, List.length_take]; rfl)) ?_; (with_reducible refine (scan_Blanks.calls kj33 a1 0 t159 _ A41.out).mono ?_); rintro e w44 ⟨rfl, hb⟩; refine ⟨_, rfl, ?_⟩; have n0_ := Aside0.mk (below_step (by repeat (first | (with_reducible first | exact HB.out | apply below_alloc | apply pw_below_drewN | apply below_drew1) | exact HB.out)) hb); clear HB; have HB := n0_; clear n0_; (try clear hb); (try clear hb2); (try clear hk); (try clear hi)))
                                go_ret
                                exact ⟨by first | rfl | (simp only [wrap_wrap]; done) | (simp only [wrap_wrap]; rfl) | (simp [errW_none, errW_some] <;> rfl) | (simp [*, errW_none, errW_some] <;> rfl), by repeat (first | (with_reducible first | exact HB.out | apply below_alloc | apply pw_below_drewN | apply below_drew1) | exact HB.out)⟩
                              · rw [if_neg c42] at H
                                have c42b0 : decide (t159 < 0) = false := decide_eq_false c42
                                clear c42
                                by_cases c45 : t158 < t159
                                · rw [if_pos c45] at H
                                  have c45b0 : decide (t158 < t159) = true := decide_eq_true c45
                                  clear c45
                                  obtain rfl := Option.some.inj H
                                  go_wp2_with (first | ((with_reducible refine gate_callee (f := 7) rfl ?_); refine goesL_ (some 85) rfl rfl Tryd.func7 (by kernel_rfl) rfl #[.string a1, .int .i64 0] rfl (by (try simp only [List.map_toArray, List.map_cons, List.map_nil]); first | done | rfl | (simp only [List.length_drop, List.length_take]; rfl)) ?_; (with_reducible refine (scan_Line.calls kj33 a1 0 t157 t158 _ A40.out).mono ?_); rintro e w46 ⟨rfl, hb⟩; refine ⟨_, rfl, ?_⟩; have n0_ := Aside0.mk (below_step (by repeat (first | (with_reducible first | exact HB.out | apply below_alloc | apply pw_below_drewN | apply below_drew1) | exact HB.out)) hb); clear HB; have HB := n0_; clear n0_; (try clear hb); (try clear hb2); (try clear hk); (try clear hi)) | ((with_reducible refine gate_callee (f := 15) rfl ?_); refine goesL_ (some 89) rfl rfl Tryd.func15 (by kernel_rfl) rfl #[.string a1, .int .i64 0] rfl (by (try simp only [List.map_toArray, List.map_cons, List.map_nil]); first | done | rfl | (simp only [List.length_drop, List.length_take]; rfl)) ?_; (with_reducible refine (scan_Blanks.calls kj33 a1 0 t159 _ A41.out).mono ?_); rintro e w47 ⟨rfl, hb⟩; refine ⟨_, rfl, ?_⟩; have n0_ := Aside0.mk (below_step (by repeat (first | (with_reducible first | exact HB.out | apply below_alloc | apply pw_below_drewN | apply below_drew1) | exact HB.out)) hb); clear HB; have HB := n0_; clear n0_; (try clear hb); (try clear hb2); (try clear hk); (try clear hi)))
                                  go_ret
                                  exact ⟨by first | rfl | (simp only [wrap_wrap]; done) | (simp only [wrap_wrap]; rfl) | (simp [errW_none, errW_some] <;> rfl) | (simp [*, errW_none, errW_some] <;> rfl), by repeat (first | (with_reducible first | exact HB.out | apply below_alloc | apply pw_below_drewN | apply below_drew1) | exact HB.out)⟩
                                · rw [if_neg c45] at H
                                  have c45b0 : decide (t158 < t159) = false := decide_eq_false c45
                                  clear c45
                                  by_cases c48 : t158 > (a1.size : Int)
                                  · rw [if_pos c48] at H
                                    have c48b0 : decide ((a1.size : Int) < t158) = true := decide_eq_true c48
                                    clear c48
                                    obtain rfl := Option.some.inj H
                                    go_wp2_with (first | ((with_reducible refine gate_callee (f := 7) rfl ?_); refine goesL_ (some 85) rfl rfl Tryd.func7 (by kernel_rfl) rfl #[.string a1, .int .i64 0] rfl (by (try simp only [List.map_toArray, List.map_cons, List.map_nil]); first | done | rfl | (simp only [List.length_drop, List.length_take]; rfl)) ?_; (with_reducible refine (scan_Line.calls kj33 a1 0 t157 t158 _ A40.out).mono ?_); rintro e w49 ⟨rfl, hb⟩; refine ⟨_, rfl, ?_⟩; have n0_ := Aside0.mk (below_step (by repeat (first | (with_reducible first | exact HB.out | apply below_alloc | apply pw_below_drewN | apply below_drew1) | exact HB.out)) hb); clear HB; have HB := n0_; clear n0_; (try clear hb); (try clear hb2); (try clear hk); (try clear hi)) | ((with_reducible refine gate_callee (f := 15) rfl ?_); refine goesL_ (some 89) rfl rfl Tryd.func15 (by kernel_rfl) rfl #[.string a1, .int .i64 0] rfl (by (try simp only [List.map_toArray, List.map_cons, List.map_nil]); first | done | rfl | (simp only [List.length_drop, List.length_take]; rfl)) ?_; (with_reducible refine (scan_Blanks.calls kj33 a1 0 t159 _ A41.out).mono ?_); rintro e w50 ⟨rfl, hb⟩; refine ⟨_, rfl, ?_⟩; have n0_ := Aside0.mk (below_step (by repeat (first | (with_reducible first | exact HB.out | apply below_alloc | apply pw_below_drewN | apply below_drew1) | exact HB.out)) hb); clear HB; have HB := n0_; clear n0_; (try clear hb); (try clear hb2); (try clear hk); (try clear hi)))
                                    go_ret
                                    exact ⟨by first | rfl | (simp only [wrap_wrap]; done) | (simp only [wrap_wrap]; rfl) | (simp [errW_none, errW_some] <;> rfl) | (simp [*, errW_none, errW_some] <;> rfl), by repeat (first | (with_reducible first | exact HB.out | apply below_alloc | apply pw_below_drewN | apply below_drew1) | exact HB.out)⟩
                                  · rw [if_neg c48] at H
                                    have c48b0 : decide ((a1.size : Int) < t158) = false := decide_eq_false c48
                                    clear c48
                                    by_cases c51 : 0 ≤ t159
                                    · rw [if_pos c51] at H
                                      have c51b0 := eq_true c51
                                      have c51b1 : decide (0 ≤ t159) = true := decide_eq_true c51
                                      clear c51
                                      by_cases c52 : t159 ≤ t158
                                      · rw [if_pos c52] at H
                                        have c52b0 := eq_true c52
                                        have c52b1 : decide (t159 ≤ t158) = true := decide_eq_true c52
                                        clear c52
                                        by_cases c53 : t158 ≤ (a1.size : Int)
                                        · rw [if_pos c53] at H
                                          have c53b0 := eq_true c53
                                          have c53b1 : decide (t158 ≤ (a1.size : Int)) = true := decide_eq_true c53
                                          clear c53
                                          by_cases c54 : t157.toList = (a1.extract (t159 : Int).toNat (t158 : Int).toNat).toList
                                          · rw [if_pos c54] at H
                                            have c54b0 : (t157.toList == (a1.extract (t159 : Int).toNat (t158 : Int).toNat).toList) = true := beq_iff_eq.mpr c54
                                            have c54b1 : (t157.toList != (a1.extract (t159 : Int).toNat (t158 : Int).toNat).toList) = false := bne_eq_false_iff_eq.mpr c54
                                            clear c54
                                            by_cases c55 : t158 < (a1.size : Int)
                                            · rw [if_pos c55] at H
                                              have c55b0 : decide (t158 < (a1.size : Int)) = true := decide_eq_true c55
                                              clear c55
                                              by_cases c56 : 0 ≤ t158
                                              · rw [if_pos c56] at H
                                                have c56b0 : decide (0 ≤ t158) = true := decide_eq_true c56
                                                clear c56
                                                by_cases c58 : (bt a1 t158) = 10
                                                · rw [if_pos c58] at H
                                                  have c58b0 : ((bt a1 t158) == 10) = true := beq_iff_eq.mpr c58
                                                  have c58b1 : ((bt a1 t158) != 10) = false := bne_eq_false_iff_eq.mpr c58
                                                  clear c58
                                                  replace H := Option.bind_eq_some_iff.mp H
                                                  obtain ⟨⟨t160, t161⟩, A590, H⟩ := H
                                                  replace H : (if t161 ≤ t158 then (if (t160.size : Int) ≤ (wrap64 (t161 - t159)) then (if t159 ≤ (wrap64 (t159 + (t160.size : Int))) then (if (wrap64 (t159 + (t160.size : Int))) ≤ (a1.size : Int) then (some (t160.toList == (a1.extract (t159 : Int).toNat ((wrap64 (t159 + (t160.size : Int))) : Int).toNat).toList)) else (none)) else (none)) else (some false)) else (some false)) = some r := H
                                                  have A59 := Aside0.mk A590
                                                  clear A590
                                                  by_cases c60 : t161 ≤ t158
                                                  · rw [if_pos c60] at H
                                                    have c60b0 : decide (t161 ≤ t158) = true := decide_eq_true c60
                                                    clear c60
                                                    by_cases c61 : (t160.size : Int) ≤ (wrap64 (t161 - t159))
                                                    · rw [if_pos c61] at H
                                                      have c61b0 : decide ((t160.size : Int) ≤ (wrap64 (t161 - t159))) = true := decide_eq_true c61
                                                      clear c61
                                                      have c62b0 := eq_true (of_decide_eq_true (by first | (with_reducible assumption) | assumption) : 0 ≤ t159)
                                                      by_cases c63 : t159 ≤ (wrap64 (t159 + (t160.size : Int)))
                                                      · rw [if_pos c63] at H
                                                        have c63b0 := eq_true c63
                                                        have c63b1 : decide (t159 ≤ (wrap64 (t159 + (t160.size : Int)))) = true := decide_eq_true c63
                                                        by_cases c64 : (wrap64 (t159 + (t160.size : Int))) ≤ (a1.size : Int)
                                                        · rw [if_pos c64] at H
                                                          have c64b0 := eq_true c64
                                                          have c64b1 : decide ((wrap64 (t159 + (t160.size : Int))) ≤ (a1.size : Int)) = true := decide_eq_true c64
                                                          obtain rfl := Option.some.inj H
                                                          go_wp2_with (first | ((with_reducible refine gate_callee (f := 7) rfl ?_); refine goesL_ (some 85) rfl rfl Tryd.func7 (by kernel_rfl) rfl #[.string a1, .int .i64 0] rfl (by (try simp only [List.map_toArray, List.map_cons, List.map_nil]); first | done | rfl | (simp only [List.length_drop, List.length_take]; rfl)) ?_; (with_reducible refine (scan_Line.calls kj33 a1 0 t157 t158 _ A40.out).mono ?_); rintro e w65 ⟨rfl, hb⟩; refine ⟨_, rfl, ?_⟩; have n0_ := Aside0.mk (below_step (by repeat (first | (with_reducible first | exact HB.out | apply below_alloc | apply pw_below_drewN | apply below_drew1) | exact HB.out)) hb); clear HB; have HB := n0_; clear n0_; (try clear hb); (try clear hb2); (try clear hk); (try clear hi)) | ((with_reducible refine gate_callee (f := 15) rfl ?_); refine goesL_ (some 89) rfl rfl Tryd.func15 (by kernel_rfl) rfl #[.string a1, .int .i64 0] rfl (by (try simp only [List.map_toArray, List.map_cons, List.map_nil]); first | done | rfl | (simp only [List.length_drop, List.length_take]; rfl)) ?_; (with_reducible refine (scan_Blanks.calls kj33 a1 0 t159 _ A41.out).mono ?_); rintro e w66 ⟨rfl, hb⟩; refine ⟨_, rfl, ?_⟩; have n0_ := Aside0.mk (below_step (by repeat (first | (with_reducible first | exact HB.out | apply below_alloc | apply pw_below_drewN | apply below_drew1) | exact HB.out)) hb); clear HB; have HB := n0_; clear n0_; (try clear hb); (try clear hb2); (try clear hk); (try clear hi); have p57 : 0 ≤ (t158 : Int) := of_decide_eq_true (by first | (with_reducible assumption) | assumption); have q57 : t158 < (a1.size : Int) := of_decide_eq_true (by first | (with_reducible assumption) | assumption); have hx57 := bt_at a1 t158; replace p57 := eq_true p57; replace q57 := eq_true q57) | ((with_reducible refine gate_callee (f := 9) rfl ?_); refine goesL_ (some 125) rfl rfl Tryd.func9 (by kernel_rfl) rfl #[.string a1, .int .i64 0] rfl (by (try simp only [List.map_toArray, List.map_cons, List.map_nil]); first | done | rfl | (simp only [List.length_drop, List.length_take]; rfl)) ?_; (with_reducible refine (scan_Word.calls kj33 a1 0 t160 t161 _ A59.out).mono ?_); rintro e w67 ⟨rfl, hb⟩; refine ⟨_, rfl, ?_⟩; have n0_ := Aside0.mk (below_step (by repeat (first | (with_reducible first | exact HB.out | apply below_alloc | apply pw_below_drewN | apply below_drew1) | exact HB.out)) hb); clear HB; have HB := n0_; clear n0_; (try clear hb); (try clear hb2); (try clear hk); (try clear hi)))
                                                          go_ret
                                                          exact ⟨by first | rfl | (simp only [wrap_wrap]; done) | (simp only [wrap_wrap]; rfl) | (simp [errW_none, errW_some] <;> rfl) | (simp [*, errW_none, errW_some] <;> rfl), by repeat (first | (with_reducible first | exact HB.out | apply below_alloc | apply pw_below_drewN | apply below_drew1) | exact HB.out)⟩
                                                        · rw [if_neg c64] at H
                                                          exact absurd H (by simp)
                                                      · rw [if_neg c63] at H
                                                        exact absurd H (by simp)
                                                    · rw [if_neg c61] at H
                                                      have c61b0 : decide ((t160.size : Int) ≤ (wrap64 (t161 - t159))) = false := decide_eq_false c61
                                                      clear c61
                                                      obtain rfl := Option.some.inj H
                                                      go_wp2_with (first | ((with_reducible refine gate_callee (f := 7) rfl ?_); refine goesL_ (some 85) rfl rfl Tryd.func7 (by kernel_rfl) rfl #[.string a1, .int .i64 0] rfl (by (try simp only [List.map_toArray, List.map_cons, List.map_nil]); first | done | rfl | (simp only [List.length_drop, List.length_take]; rfl)) ?_; (with_reducible refine (scan_Line.calls kj33 a1 0 t157 t158 _ A40.out).mono ?_); rintro e w68 ⟨rfl, hb⟩; refine ⟨_, rfl, ?_⟩; have n0_ := Aside0.mk (below_step (by repeat (first | (with_reducible first | exact HB.out | apply below_alloc | apply pw_below_drewN | apply below_drew1) | exact HB.out)) hb); clear HB; have HB := n0_; clear n0_; (try clear hb); (try clear hb2); (try clear hk); (try clear hi)) | ((with_reducible refine gate_callee (f := 15) rfl ?_); refine goesL_ (some 89) rfl rfl Tryd.func15 (by kernel_rfl) rfl #[.string a1, .int .i64 0] rfl (by (try simp only [List.map_toArray, List.map_cons, List.map_nil]); first | done | rfl | (simp only [List.length_drop, List.length_take]; rfl)) ?_; (with_reducible refine (scan_Blanks.calls kj33 a1 0 t159 _ A41.out).mono ?_); rintro e w69 ⟨rfl, hb⟩; refine ⟨_, rfl, ?_⟩; have n0_ := Aside0.mk (below_step (by repeat (first | (with_reducible first | exact HB.out | apply below_alloc | apply pw_below_drewN | apply below_drew1) | exact HB.out)) hb); clear HB; have HB := n0_; clear n0_; (try clear hb); (try clear hb2); (try clear hk); (try clear hi); have p57 : 0 ≤ (t158 : Int) := of_decide_eq_true (by first | (with_reducible assumption) | assumption); have q57 : t158 < (a1.size : Int) := of_decide_eq_true (by first | (with_reducible assumption) | assumption); have hx57 := bt_at a1 t158; replace p57 := eq_true p57; replace q57 := eq_true q57) | ((with_reducible refine gate_callee (f := 9) rfl ?_); refine goesL_ (some 125) rfl rfl Tryd.func9 (by kernel_rfl) rfl #[.string a1, .int .i64 0] rfl (by (try simp only [List.map_toArray, List.map_cons, List.map_nil]); first | done | rfl | (simp only [List.length_drop, List.length_take]; rfl)) ?_; (with_reducible refine (scan_Word.calls kj33 a1 0 t160 t161 _ A59.out).mono ?_); rintro e w70 ⟨rfl, hb⟩; refine ⟨_, rfl, ?_⟩; have n0_ := Aside0.mk (below_step (by repeat (first | (with_reducible first | exact HB.out | apply below_alloc | apply pw_below_drewN | apply below_drew1) | exact HB.out)) hb); clear HB; have HB := n0_; clear n0_; (try clear hb); (try clear hb2); (try clear hk); (try clear hi)))
                                                      go_ret
                                                      exact ⟨by first | rfl | (simp only [wrap_wrap]; done) | (simp only [wrap_wrap]; rfl) | (simp [errW_none, errW_some] <;> rfl) | (simp [*, errW_none, errW_some] <;> rfl), by repeat (first | (with_reducible first | exact HB.out | apply below_alloc | apply pw_below_drewN | apply below_drew1) | exact HB.out)⟩
                                                  · rw [if_neg c60] at H
                                                    have c60b0 : decide (t161 ≤ t158) = false := decide_eq_false c60
                                                    clear c60
                                                    obtain rfl := Option.some.inj H
                                                    go_wp2_with (first | ((with_reducible refine gate_callee (f := 7) rfl ?_); refine goesL_ (some 85) rfl rfl Tryd.func7 (by kernel_rfl) rfl #[.string a1, .int .i64 0] rfl (by (try simp only [List.map_toArray, List.map_cons, List.map_nil]); first | done | rfl | (simp only [List.length_drop, List.length_take]; rfl)) ?_; (with_reducible refine (scan_Line.calls kj33 a1 0 t157 t158 _ A40.out).mono ?_); rintro e w71 ⟨rfl, hb⟩; refine ⟨_, rfl, ?_⟩; have n0_ := Aside0.mk (below_step (by repeat (first | (with_reducible first | exact HB.out | apply below_alloc | apply pw_below_drewN | apply below_drew1) | exact HB.out)) hb); clear HB; have HB := n0_; clear n0_; (try clear hb); (try clear hb2); (try clear hk); (try clear hi)) | ((with_reducible refine gate_callee (f := 15) rfl ?_); refine goesL_ (some 89) rfl rfl Tryd.func15 (by kernel_rfl) rfl #[.string a1, .int .i64 0] rfl (by (try simp only [List.map_toArray, List.map_cons, List.map_nil]); first | done | rfl | (simp only [List.length_drop, List.length_take]; rfl)) ?_; (with_reducible refine (scan_Blanks.calls kj33 a1 0 t159 _ A41.out).mono ?_); rintro e w72 ⟨rfl, hb⟩; refine ⟨_, rfl, ?_⟩; have n0_ := Aside0.mk (below_step (by repeat (first | (with_reducible first | exact HB.out | apply below_alloc | apply pw_below_drewN | apply below_drew1) | exact HB.out)) hb); clear HB; have HB := n0_; clear n0_; (try clear hb); (try clear hb2); (try clear hk); (try clear hi); have p57 : 0 ≤ (t158 : Int) := of_decide_eq_true (by first | (with_reducible assumption) | assumption); have q57 : t158 < (a1.size : Int) := of_decide_eq_true (by first | (with_reducible assumption) | assumption); have hx57 := bt_at a1 t158; replace p57 := eq_true p57; replace q57 := eq_true q57) | ((with_reducible refine gate_callee (f := 9) rfl ?_); refine goesL_ (some 125) rfl rfl Tryd.func9 (by kernel_rfl) rfl #[.string a1, .int .i64 0] rfl (by (try simp only [List.map_toArray, List.map_cons, List.map_nil]); first | done | rfl | (simp only [List.length_drop, List.length_take]; rfl)) ?_; (with_reducible refine (scan_Word.calls kj33 a1 0 t160 t161 _ A59.out).mono ?_); rintro e w73 ⟨rfl, hb⟩; refine ⟨_, rfl, ?_⟩; have n0_ := Aside0.mk (below_step (by repeat (first | (with_reducible first | exact HB.out | apply below_alloc | apply pw_below_drewN | apply below_drew1) | exact HB.out)) hb); clear HB; have HB := n0_; clear n0_; (try clear hb); (try clear hb2); (try clear hk); (try clear hi)))
                                                    go_ret
                                                    exact ⟨by first | rfl | (simp only [wrap_wrap]; done) | (simp only [wrap_wrap]; rfl) | (simp [errW_none, errW_some] <;> rfl) | (simp [*, errW_none, errW_some] <;> rfl), by repeat (first | (with_reducible first | exact HB.out | apply below_alloc | apply pw_below_drewN | apply below_drew1) | exact HB.out)⟩
                                                · rw [if_neg c58] at H
                                                  have c58b0 : ((bt a1 t158) == 10) = false := beq_eq_false_iff_ne.mpr c58
                                                  have c58b1 : ((bt a1 t158) != 10) = true := bne_iff_ne.mpr c58
                                                  obtain rfl := Option.some.inj H
                                                  go_wp2_with (first | ((with_reducible refine gate_callee (f := 7) rfl ?_); refine goesL_ (some 85) rfl rfl Tryd.func7 (by kernel_rfl) rfl #[.string a1, .int .i64 0] rfl (by (try simp only [List.map_toArray, List.map_cons, List.map_nil]); first | done | rfl | (simp only [List.length_drop, List.length_take]; rfl)) ?_; (with_reducible refine (scan_Line.calls kj33 a1 0 t157 t158 _ A40.out).mono ?_); rintro e w74 ⟨rfl, hb⟩; refine ⟨_, rfl, ?_⟩; have n0_ := Aside0.mk (below_step (by repeat (first | (with_reducible first | exact HB.out | apply below_alloc | apply pw_below_drewN | apply below_drew1) | exact HB.out)) hb); clear HB; have HB := n0_; clear n0_; (try clear hb); (try clear hb2); (try clear hk); (try clear hi)) | ((with_reducible refine gate_callee (f := 15) rfl ?_); refine goesL_ (some 89) rfl rfl Tryd.func15 (by kernel_rfl) rfl #[.string a1, .int .i64 0] rfl (by (try simp only [List.map_toArray, List.map_cons, List.map_nil]); first | done | rfl | (simp only [List.length_drop, List.length_take]; rfl)) ?_; (with_reducible refine (scan_Blanks.calls kj33 a1 0 t159 _ A41.out).mono ?_); rintro e w75 ⟨rfl, hb⟩; refine ⟨_, rfl, ?_⟩; have n0_ := Aside0.mk (below_step (by repeat (first | (with_reducible first | exact HB.out | apply below_alloc | apply pw_below_drewN | apply below_drew1) | exact HB.out)) hb); clear HB; have HB := n0_; clear n0_; (try clear hb); (try clear hb2); (try clear hk); (try clear hi); have p57 : 0 ≤ (t158 : Int) := of_decide_eq_true (by first | (with_reducible assumption) | assumption); have q57 : t158 < (a1.size : Int) := of_decide_eq_true (by first | (with_reducible assumption) | assumption); have hx57 := bt_at a1 t158; replace p57 := eq_true p57; replace q57 := eq_true q57))
                                                  go_ret
                                                  exact ⟨by first | rfl | (simp only [wrap_wrap]; done) | (simp only [wrap_wrap]; rfl) | (simp [errW_none, errW_some] <;> rfl) | (simp [*, errW_none, errW_some] <;> rfl), by repeat (first | (with_reducible first | exact HB.out | apply below_alloc | apply pw_below_drewN | apply below_drew1) | exact HB.out)⟩
                                              · rw [if_neg c56] at H
                                                exact absurd H (by simp)
                                            · rw [if_neg c55] at H
                                              have c55b0 : decide (t158 < (a1.size : Int)) = false := decide_eq_false c55
                                              clear c55
                                              replace H := Option.bind_eq_some_iff.mp H
                                              obtain ⟨⟨t162, t163⟩, A760, H⟩ := H
                                              replace H : (if t163 ≤ t158 then (if (t162.size : Int) ≤ (wrap64 (t163 - t159)) then (if t159 ≤ (wrap64 (t159 + (t162.size : Int))) then (if (wrap64 (t159 + (t162.size : Int))) ≤ (a1.size : Int) then (some (t162.toList == (a1.extract (t159 : Int).toNat ((wrap64 (t159 + (t162.size : Int))) : Int).toNat).toList)) else (none)) else (none)) else (some false)) else (some false)) = some r := H
                                              have A76 := Aside0.mk A760
                                              clear A760
                                              by_cases c77 : t163 ≤ t158
                                              · rw [if_pos c77] at H
                                                have c77b0 : decide (t163 ≤ t158) = true := decide_eq_true c77
                                                clear c77
                                                by_cases c78 : (t162.size : Int) ≤ (wrap64 (t163 - t159))
                                                · rw [if_pos c78] at H
                                                  have c78b0 : decide ((t162.size : Int) ≤ (wrap64 (t163 - t159))) = true := decide_eq_true c78
                                                  clear c78
                                                  have c79b0 := eq_true (of_decide_eq_true (by first | (with_reducible assumption) | assumption) : 0 ≤ t159)
                                                  by_cases c80 : t159 ≤ (wrap64 (t159 + (t162.size : Int)))
                                                  · rw [if_pos c80] at H
                                                    have c80b0 := eq_true c80
                                                    have c80b1 : decide (t159 ≤ (wrap64 (t159 + (t162.size : Int)))) = true := decide_eq_true c80
                                                    by_cases c81 : (wrap64 (t159 + (t162.size : Int))) ≤ (a1.size : Int)
                                                    · rw [if_pos c81] at H
                                                      have c81b0 := eq_true c81
                                                      have c81b1 : decide ((wrap64 (t159 + (t162.size : Int))) ≤ (a1.size : Int)) = true := decide_eq_true c81
                                                      obtain rfl := Option.some.inj H
                                                      go_wp2_with (first | ((with_reducible refine gate_callee (f := 7) rfl ?_); refine goesL_ (some 85) rfl rfl Tryd.func7 (by kernel_rfl) rfl #[.string a1, .int .i64 0] rfl (by (try simp only [List.map_toArray, List.map_cons, List.map_nil]); first | done | rfl | (simp only [List.length_drop, List.length_take]; rfl)) ?_; (with_reducible refine (scan_Line.calls kj33 a1 0 t157 t158 _ A40.out).mono ?_); rintro e w82 ⟨rfl, hb⟩; refine ⟨_, rfl, ?_⟩; have n0_ := Aside0.mk (below_step (by repeat (first | (with_reducible first | exact HB.out | apply below_alloc | apply pw_below_drewN | apply below_drew1) | exact HB.out)) hb); clear HB; have HB := n0_; clear n0_; (try clear hb); (try clear hb2); (try clear hk); (try clear hi)) | ((with_reducible refine gate_callee (f := 15) rfl ?_); refine goesL_ (some 89) rfl rfl Tryd.func15 (by kernel_rfl) rfl #[.string a1, .int .i64 0] rfl (by (try simp only [List.map_toArray, List.map_cons, List.map_nil]); first | done | rfl | (simp only [List.length_drop, List.length_take]; rfl)) ?_; (with_reducible refine (scan_Blanks.calls kj33 a1 0 t159 _ A41.out).mono ?_); rintro e w83 ⟨rfl, hb⟩; refine ⟨_, rfl, ?_⟩; have n0_ := Aside0.mk (below_step (by repeat (first | (with_reducible first | exact HB.out | apply below_alloc | apply pw_below_drewN | apply below_drew1) | exact HB.out)) hb); clear HB; have HB := n0_; clear n0_; (try clear hb); (try clear hb2); (try clear hk); (try clear hi)) | ((with_reducible refine gate_callee (f := 9) rfl ?_); refine goesL_ (some 125) rfl rfl Tryd.func9 (by kernel_rfl) rfl #[.string a1, .int .i64 0] rfl (by (try simp only [List.map_toArray, List.map_cons, List.map_nil]); first | done | rfl | (simp only [List.length_drop, List.length_take]; rfl)) ?_; (with_reducible refine (scan_Word.calls kj33 a1 0 t162 t163 _ A76.out).mono ?_); rintro e w84 ⟨rfl, hb⟩; refine ⟨_, rfl, ?_⟩; have n0_ := Aside0.mk (below_step (by repeat (first | (with_reducible first | exact HB.out | apply below_alloc | apply pw_below_drewN | apply below_drew1) | exact HB.out)) hb); clear HB; have HB := n0_; clear n0_; (try clear hb); (try clear hb2); (try clear hk); (try clear hi)))
                                                      go_ret
                                                      exact ⟨by first | rfl | (simp only [wrap_wrap]; done) | (simp only [wrap_wrap]; rfl) | (simp [errW_none, errW_some] <;> rfl) | (simp [*, errW_none, errW_some] <;> rfl), by repeat (first | (with_reducible first | exact HB.out | apply below_alloc | apply pw_below_drewN | apply below_drew1) | exact HB.out)⟩
                                                    · rw [if_neg c81] at H
                                                      exact absurd H (by simp)
                                                  · rw [if_neg c80] at H
                                                    exact absurd H (by simp)
                                                · rw [if_neg c78] at H
                                                  have c78b0 : decide ((t162.size : Int) ≤ (wrap64 (t163 - t159))) = false := decide_eq_false c78
                                                  clear c78
                                                  obtain rfl := Option.some.inj H
                                                  go_wp2_with (first | ((with_reducible refine gate_callee (f := 7) rfl ?_); refine goesL_ (some 85) rfl rfl Tryd.func7 (by kernel_rfl) rfl #[.string a1, .int .i64 0] rfl (by (try simp only [List.map_toArray, List.map_cons, List.map_nil]); first | done | rfl | (simp only [List.length_drop, List.length_take]; rfl)) ?_; (with_reducible refine (scan_Line.calls kj33 a1 0 t157 t158 _ A40.out).mono ?_); rintro e w85 ⟨rfl, hb⟩; refine ⟨_, rfl, ?_⟩; have n0_ := Aside0.mk (below_step (by repeat (first | (with_reducible first | exact HB.out | apply below_alloc | apply pw_below_drewN | apply below_drew1) | exact HB.out)) hb); clear HB; have HB := n0_; clear n0_; (try clear hb); (try clear hb2); (try clear hk); (try clear hi)) | ((with_reducible refine gate_callee (f := 15) rfl ?_); refine goesL_ (some 89) rfl rfl Tryd.func15 (by kernel_rfl) rfl #[.string a1, .int .i64 0] rfl (by (try simp only [List.map_toArray, List.map_cons, List.map_nil]); first | done | rfl | (simp only [List.length_drop, List.length_take]; rfl)) ?_; (with_reducible refine (scan_Blanks.calls kj33 a1 0 t159 _ A41.out).mono ?_); rintro e w86 ⟨rfl, hb⟩; refine ⟨_, rfl, ?_⟩; have n0_ := Aside0.mk (below_step (by repeat (first | (with_reducible first | exact HB.out | apply below_alloc | apply pw_below_drewN | apply below_drew1) | exact HB.out)) hb); clear HB; have HB := n0_; clear n0_; (try clear hb); (try clear hb2); (try clear hk); (try clear hi)) | ((with_reducible refine gate_callee (f := 9) rfl ?_); refine goesL_ (some 125) rfl rfl Tryd.func9 (by kernel_rfl) rfl #[.string a1, .int .i64 0] rfl (by (try simp only [List.map_toArray, List.map_cons, List.map_nil]); first | done | rfl | (simp only [List.length_drop, List.length_take]; rfl)) ?_; (with_reducible refine (scan_Word.calls kj33 a1 0 t162 t163 _ A76.out).mono ?_); rintro e w87 ⟨rfl, hb⟩; refine ⟨_, rfl, ?_⟩; have n0_ := Aside0.mk (below_step (by repeat (first | (with_reducible first | exact HB.out | apply below_alloc | apply pw_below_drewN | apply below_drew1) | exact HB.out)) hb); clear HB; have HB := n0_; clear n0_; (try clear hb); (try clear hb2); (try clear hk); (try clear hi)))
                                                  go_ret
                                                  exact ⟨by first | rfl | (simp only [wrap_wrap]; done) | (simp only [wrap_wrap]; rfl) | (simp [errW_none, errW_some] <;> rfl) | (simp [*, errW_none, errW_some] <;> rfl), by repeat (first | (with_reducible first | exact HB.out | apply below_alloc | apply pw_below_drewN | apply below_drew1) | exact HB.out)⟩
                                              · rw [if_neg c77] at H
                                                have c77b0 : decide (t163 ≤ t158) = false := decide_eq_false c77
                                                clear c77
                                                obtain rfl := Option.some.inj H
                                                go_wp2_with (first | ((with_reducible refine gate_callee (f := 7) rfl ?_); refine goesL_ (some 85) rfl rfl Tryd.func7 (by kernel_rfl) rfl #[.string a1, .int .i64 0] rfl (by (try simp only [List.map_toArray, List.map_cons, List.map_nil]); first | done | rfl | (simp only [List.length_drop, List.length_take]; rfl)) ?_; (with_reducible refine (scan_Line.calls kj33 a1 0 t157 t158 _ A40.out).mono ?_); rintro e w88 ⟨rfl, hb⟩; refine ⟨_, rfl, ?_⟩; have n0_ := Aside0.mk (below_step (by repeat (first | (with_reducible first | exact HB.out | apply below_alloc | apply pw_below_drewN | apply below_drew1) | exact HB.out)) hb); clear HB; have HB := n0_; clear n0_; (try clear hb); (try clear hb2); (try clear hk); (try clear hi)) | ((with_reducible refine gate_callee (f := 15) rfl ?_); refine goesL_ (some 89) rfl rfl Tryd.func15 (by kernel_rfl) rfl #[.string a1, .int .i64 0] rfl (by (try simp only [List.map_toArray, List.map_cons, List.map_nil]); first | done | rfl | (simp only [List.length_drop, List.length_take]; rfl)) ?_; (with_reducible refine (scan_Blanks.calls kj33 a1 0 t159 _ A41.out).mono ?_); rintro e w89 ⟨rfl, hb⟩; refine ⟨_, rfl, ?_⟩; have n0_ := Aside0.mk (below_step (by repeat (first | (with_reducible first | exact HB.out | apply below_alloc | apply pw_below_drewN | apply below_drew1) | exact HB.out)) hb); clear HB; have HB := n0_; clear n0_; (try clear hb); (try clear hb2); (try clear hk); (try clear hi)) | ((with_reducible refine gate_callee (f := 9) rfl ?_); refine goesL_ (some 125) rfl rfl Tryd.func9 (by kernel_rfl) rfl #[.string a1, .int .i64 0] rfl (by (try simp only [List.map_toArray, List.map_cons, List.map_nil]); first | done | rfl | (simp only [List.length_drop, List.length_take]; rfl)) ?_; (with_reducible refine (scan_Word.calls kj33 a1 0 t162 t163 _ A76.out).mono ?_); rintro e w90 ⟨rfl, hb⟩; refine ⟨_, rfl, ?_⟩; have n0_ := Aside0.mk (below_step (by repeat (first | (with_reducible first | exact HB.out | apply below_alloc | apply pw_below_drewN | apply below_drew1) | exact HB.out)) hb); clear HB; have HB := n0_; clear n0_; (try clear hb); (try clear hb2); (try clear hk); (try clear hi)))
                                                go_ret
                                                exact ⟨by first | rfl | (simp only [wrap_wrap]; done) | (simp only [wrap_wrap]; rfl) | (simp [errW_none, errW_some] <;> rfl) | (simp [*, errW_none, errW_some] <;> rfl), by repeat (first | (with_reducible first | exact HB.out | apply below_alloc | apply pw_below_drewN | apply below_drew1) | exact HB.out)⟩
                                          · rw [if_neg c54] at H
                                            have c54b0 : (t157.toList == (a1.extract (t159 : Int).toNat (t158 : Int).toNat).toList) = false := beq_eq_false_iff_ne.mpr c54
                                            have c54b1 : (t157.toList != (a1.extract (t159 : Int).toNat (t158 : Int).toNat).toList) = true := bne_iff_ne.mpr c54
                                            obtain rfl := Option.some.inj H
                                            go_wp2_with (first | ((with_reducible refine gate_callee (f := 7) rfl ?_); refine goesL_ (some 85) rfl rfl Tryd.func7 (by kernel_rfl) rfl #[.string a1, .int .i64 0] rfl (by (try simp only [List.map_toArray, List.map_cons, List.map_nil]); first | done | rfl | (simp only [List.length_drop, List.length_take]; rfl)) ?_; (with_reducible refine (scan_Line.calls kj33 a1 0 t157 t158 _ A40.out).mono ?_); rintro e w91 ⟨rfl, hb⟩; refine ⟨_, rfl, ?_⟩; have n0_ := Aside0.mk (below_step (by repeat (first | (with_reducible first | exact HB.out | apply below_alloc | apply pw_below_drewN | apply below_drew1) | exact HB.out)) hb); clear HB; have HB := n0_; clear n0_; (try clear hb); (try clear hb2); (try clear hk); (try clear hi)) | ((with_reducible refine gate_callee (f := 15) rfl ?_); refine goesL_ (some 89) rfl rfl Tryd.func15 (by kernel_rfl) rfl #[.string a1, .int .i64 0] rfl (by (try simp only [List.map_toArray, List.map_cons, List.map_nil]); first | done | rfl | (simp only [List.length_drop, List.length_take]; rfl)) ?_; (with_reducible refine (scan_Blanks.calls kj33 a1 0 t159 _ A41.out).mono ?_); rintro e w92 ⟨rfl, hb⟩; refine ⟨_, rfl, ?_⟩; have n0_ := Aside0.mk (below_step (by repeat (first | (with_reducible first | exact HB.out | apply below_alloc | apply pw_below_drewN | apply below_drew1) | exact HB.out)) hb); clear HB; have HB := n0_; clear n0_; (try clear hb); (try clear hb2); (try clear hk); (try clear hi)))
                                            go_ret
                                            exact ⟨by first | rfl | (simp only [wrap_wrap]; done) | (simp only [wrap_wrap]; rfl) | (simp [errW_none, errW_some] <;> rfl) | (simp [*, errW_none, errW_some] <;> rfl), by repeat (first | (with_reducible first | exact HB.out | apply below_alloc | apply pw_below_drewN | apply below_drew1) | exact HB.out)⟩
                                        · rw [if_neg c53] at H
                                          exact absurd H (by simp)
                                      · rw [if_neg c52] at H
                                        exact absurd H (by simp)
                                    · rw [if_neg c51] at H
                                      exact absurd H (by simp)
                      · rw [if_neg c32] at H
                        exact absurd H (by simp)
                    · rw [if_neg c31] at H
                      exact absurd H (by simp)
                  · rw [if_neg c30] at H
                    exact absurd H (by simp)
                · rw [if_neg c29] at H
                  exact absurd H (by simp)
  · replace c5 := Bool.eq_false_iff.mpr c5
    subst c5
    have H1 : (some false) = some r := by rw [if_neg (show ¬ (false = true) by decide)] at H; exact H
    clear H
    have H := H1
    clear H1
    obtain rfl := Option.some.inj H
    go_enter Tryd.func4, Tryd.ntmps4
    go_wp2_with (first | ((with_reducible refine gate_callee (f := 11) rfl ?_); refine goesL_ (some 19) rfl rfl Tryd.func11 (by kernel_rfl) rfl #[] rfl (by (try simp only [List.map_toArray, List.map_cons, List.map_nil]); first | done | rfl | (simp only [List.length_drop, List.length_take]; rfl)) ?_; (with_reducible refine (runnellaw17_awake.calls k  false _ A4.out).mono ?_); rintro e w93 ⟨rfl, hb⟩; refine ⟨_, rfl, ?_⟩; have n0_ := Aside0.mk (below_step (by repeat (first | (with_reducible first | exact HB.out | apply below_alloc | apply pw_below_drewN | apply below_drew1) | exact HB.out)) hb); clear HB; have HB := n0_; clear n0_; (try clear hb); (try clear hb2); (try clear hk); (try clear hi)))
    go_ret
    exact ⟨by first | rfl | (simp only [wrap_wrap]; done) | (simp only [wrap_wrap]; rfl) | (simp [errW_none, errW_some] <;> rfl) | (simp [*, errW_none, errW_some] <;> rfl), by repeat (first | (with_reducible first | exact HB.out | apply below_alloc | apply pw_below_drewN | apply below_drew1) | exact HB.out)⟩

/-- THE ONE PURE STATEMENT of runnellaw17_ScanLines: yours. -/
def runnellaw17_ScanLines.Pure : Prop := ∀ (a0 : ByteArray) (a1 : ByteArray) (a2 : Int), a0.size ≤ 140737488351232 → a1.size ≤ 140737488351232 → (Lit.int .u8 a2).wf = true → ∃ k, runnellaw17_ScanLines.f k a0 a1 a2 = some true
theorem runnellaw17_ScanLines.walk (P : runnellaw17_ScanLines.Pure) (a0 : ByteArray) (a1 : ByteArray) (a2 : Int) (w : World) (w0 : a0.size ≤ 140737488351232) (w1 : a1.size ≤ 140737488351232) (w2 : (Lit.int .u8 a2).wf = true) :
    Calls Tryd.prog 4 #[.string a0, .string a1, .int .u8 a2] w fun e w' => e = .returned (.bool true) ∧ Below w.heap.size w w' := by
  obtain ⟨k, h⟩ := P a0 a1 a2 w0 w1 w2
  refine (runnellaw17_ScanLines.calls k a0 a1 a2 true w h).mono ?_
  rintro e w' ⟨rfl, hd⟩
  exact ⟨rfl, hd⟩

end Go.Proofs.YtdlbmajilmmapaaDoor.F
