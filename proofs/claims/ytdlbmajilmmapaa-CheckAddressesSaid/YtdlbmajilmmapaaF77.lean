-- Made by a program of this session (wip/tools/pr.py over the kit's printer). Not trusted: Lean checks it.
import Derived.Test.YtdlbmajilmmapaaFx
import Derived.Test.YtdlbmajilmmapaaF85
namespace Go.Proofs.Ytdlbmajilmmapaa.F
open Go.RowKit Go.Proofs.YtdlbmajilmmapaaW.PrintWords Go.Proofs.YtdlbmajilmmapaaW.PrintLast Go.Proofs.YtdlbmajilmmapaaW.PrintMore
attribute [local go_sem] max2_int min2_int max_two min_two max_three min_three max_four min_four
set_option linter.unusedVariables false
set_option linter.unusedSimpArgs false

/-! ### check_addresses: function 77 -/
mutual
def check_addresses.j0 : Nat → Int → Int → Int → Int → ByteArray → Int → Int → ByteArray → Bool → Int → ByteArray → ByteArray → ByteArray → ByteArray → List (S117) → Int → Bool → Bool → ByteArray → ByteArray → Option (Int)
  | 0, _, _, _, _, _, _, _, _, _, _, _, _, _, _, _, _, _, _, _, _ => none
  | k + 1, x3, x102000, x102001, x102002, x102003, x102004, x102005, x102006, x102007, x102008, x102009, x102010, x102011, x102012, x102013, x102014, x102015, x102016, x102017, x102018 => if x102004 = 0 then (check_addresses.j1 k x3 x102000 x102001 x102002 x102003 x102004 x102005 x102006 x102007 x102008 x102009 x102010 x102011 x102012 x102013 x102014 x102015 x102016 x102017 x102018) else (check_addresses.j1 k (wrap64 (x3 + 1)) x102000 x102001 x102002 x102003 x102004 x102005 x102006 x102007 x102008 x102009 x102010 x102011 x102012 x102013 x102014 x102015 x102016 x102017 x102018)
def check_addresses.j1 : Nat → Int → Int → Int → Int → ByteArray → Int → Int → ByteArray → Bool → Int → ByteArray → ByteArray → ByteArray → ByteArray → List (S117) → Int → Bool → Bool → ByteArray → ByteArray → Option (Int)
  | 0, _, _, _, _, _, _, _, _, _, _, _, _, _, _, _, _, _, _, _, _ => none
  | k + 1, x3, x102000, x102001, x102002, x102003, x102004, x102005, x102006, x102007, x102008, x102009, x102010, x102011, x102012, x102013, x102014, x102015, x102016, x102017, x102018 => (check_counts.f k x102008).bind fun t102 => (if t102 < 0 then (some 18) else (if x3 > t102 then (some 17) else (if x3 = 1 then (check_addresses.j2 k t102 (x102001 == 0) x102000 x102001 x102002 x102003 x102004 x102005 x102006 x102007 x102008 x102009 x102010 x102011 x102012 x102013 x102014 x102015 x102016 x102017 x102018) else (check_addresses.j2 k t102 false x102000 x102001 x102002 x102003 x102004 x102005 x102006 x102007 x102008 x102009 x102010 x102011 x102012 x102013 x102014 x102015 x102016 x102017 x102018))))
def check_addresses.j2 : Nat → Int → Bool → Int → Int → Int → ByteArray → Int → Int → ByteArray → Bool → Int → ByteArray → ByteArray → ByteArray → ByteArray → List (S117) → Int → Bool → Bool → ByteArray → ByteArray → Option (Int)
  | 0, _, _, _, _, _, _, _, _, _, _, _, _, _, _, _, _, _, _, _, _, _ => none
  | k + 1, x4, x23, x102000, x102001, x102002, x102003, x102004, x102005, x102006, x102007, x102008, x102009, x102010, x102011, x102012, x102013, x102014, x102015, x102016, x102017, x102018 => if x23 = true then (some 17) else (if x4 = 0 then (if x102007 = true then (some 17) else (some 0)) else (some 0))
end
def check_addresses.f (k : Nat) (a0_0 : Int) (a0_1 : Int) (a0_2 : Int) (a0_3 : ByteArray) (a0_4 : Int) (a0_5 : Int) (a0_6 : ByteArray) (a0_7 : Bool) (a0_8 : Int) (a0_9 : ByteArray) (a0_10 : ByteArray) (a0_11 : ByteArray) (a0_12 : ByteArray) (l0_13 : List (S117)) (a0_14 : Int) (a0_15 : Bool) (a0_16 : Bool) (a0_17 : ByteArray) (a0_18 : ByteArray) : Option (Int) := if a0_1 = 0 then (check_addresses.j0 k 0 a0_0 a0_1 a0_2 a0_3 a0_4 a0_5 a0_6 a0_7 a0_8 a0_9 a0_10 a0_11 a0_12 l0_13 a0_14 a0_15 a0_16 a0_17 a0_18) else (check_addresses.j0 k (0 + 1) a0_0 a0_1 a0_2 a0_3 a0_4 a0_5 a0_6 a0_7 a0_8 a0_9 a0_10 a0_11 a0_12 l0_13 a0_14 a0_15 a0_16 a0_17 a0_18)
theorem check_addresses.mono_l : ∀ k, (∀ y0 y1 y2 y3 y4 y5 y6 y7 y8 y9 y10 y11 y12 y13 y14 y15 y16 y17 y18 y19, LeO (check_addresses.j0 k y0 y1 y2 y3 y4 y5 y6 y7 y8 y9 y10 y11 y12 y13 y14 y15 y16 y17 y18 y19) (check_addresses.j0 (k + 1) y0 y1 y2 y3 y4 y5 y6 y7 y8 y9 y10 y11 y12 y13 y14 y15 y16 y17 y18 y19)) ∧ (∀ y0 y1 y2 y3 y4 y5 y6 y7 y8 y9 y10 y11 y12 y13 y14 y15 y16 y17 y18 y19, LeO (check_addresses.j1 k y0 y1 y2 y3 y4 y5 y6 y7 y8 y9 y10 y11 y12 y13 y14 y15 y16 y17 y18 y19) (check_addresses.j1 (k + 1) y0 y1 y2 y3 y4 y5 y6 y7 y8 y9 y10 y11 y12 y13 y14 y15 y16 y17 y18 y19)) ∧ (∀ y0 y1 y2 y3 y4 y5 y6 y7 y8 y9 y10 y11 y12 y13 y14 y15 y16 y17 y18 y19 y20, LeO (check_addresses.j2 k y0 y1 y2 y3 y4 y5 y6 y7 y8 y9 y10 y11 y12 y13 y14 y15 y16 y17 y18 y19 y20) (check_addresses.j2 (k + 1) y0 y1 y2 y3 y4 y5 y6 y7 y8 y9 y10 y11 y12 y13 y14 y15 y16 y17 y18 y19 y20))
  | 0 => ⟨fun _ _ _ _ _ _ _ _ _ _ _ _ _ _ _ _ _ _ _ _ r h => by simp [check_addresses.j0] at h, fun _ _ _ _ _ _ _ _ _ _ _ _ _ _ _ _ _ _ _ _ r h => by simp [check_addresses.j1] at h, fun _ _ _ _ _ _ _ _ _ _ _ _ _ _ _ _ _ _ _ _ _ r h => by simp [check_addresses.j2] at h⟩
  | k + 1 => by
    obtain ⟨ih0, ih1, ih2⟩ := check_addresses.mono_l k
    refine ⟨?_, ?_, ?_⟩
    · intro y0 y1 y2 y3 y4 y5 y6 y7 y8 y9 y10 y11 y12 y13 y14 y15 y16 y17 y18 y19
      unfold check_addresses.j0
      repeat' first
      | (with_reducible exact ih0 _ _ _ _ _ _ _ _ _ _ _ _ _ _ _ _ _ _ _ _)
      | (with_reducible exact ih1 _ _ _ _ _ _ _ _ _ _ _ _ _ _ _ _ _ _ _ _)
      | (with_reducible exact ih2 _ _ _ _ _ _ _ _ _ _ _ _ _ _ _ _ _ _ _ _ _)
      | (with_reducible exact check_counts.mono _ _)
      | (with_reducible exact LeO.refl _)
      | (with_reducible exact LeO.none _)
      | (with_reducible refine LeO.ite ?_ ?_)
      | (with_reducible refine LeO.bind ?_ (fun _ => ?_))
      | exact ih0 _ _ _ _ _ _ _ _ _ _ _ _ _ _ _ _ _ _ _ _
      | exact ih1 _ _ _ _ _ _ _ _ _ _ _ _ _ _ _ _ _ _ _ _
      | exact ih2 _ _ _ _ _ _ _ _ _ _ _ _ _ _ _ _ _ _ _ _ _
      | exact check_counts.mono _ _
      | exact LeO.none _
      | refine LeO.ite ?_ ?_
      | refine LeO.bind ?_ (fun _ => ?_)
    · intro y0 y1 y2 y3 y4 y5 y6 y7 y8 y9 y10 y11 y12 y13 y14 y15 y16 y17 y18 y19
      unfold check_addresses.j1
      repeat' first
      | (with_reducible exact ih0 _ _ _ _ _ _ _ _ _ _ _ _ _ _ _ _ _ _ _ _)
      | (with_reducible exact ih1 _ _ _ _ _ _ _ _ _ _ _ _ _ _ _ _ _ _ _ _)
      | (with_reducible exact ih2 _ _ _ _ _ _ _ _ _ _ _ _ _ _ _ _ _ _ _ _ _)
      | (with_reducible exact check_counts.mono _ _)
      | (with_reducible exact LeO.refl _)
      | (with_reducible exact LeO.none _)
      | (with_reducible refine LeO.ite ?_ ?_)
      | (with_reducible refine LeO.bind ?_ (fun _ => ?_))
      | exact ih0 _ _ _ _ _ _ _ _ _ _ _ _ _ _ _ _ _ _ _ _
      | exact ih1 _ _ _ _ _ _ _ _ _ _ _ _ _ _ _ _ _ _ _ _
      | exact ih2 _ _ _ _ _ _ _ _ _ _ _ _ _ _ _ _ _ _ _ _ _
      | exact check_counts.mono _ _
      | exact LeO.none _
      | refine LeO.ite ?_ ?_
      | refine LeO.bind ?_ (fun _ => ?_)
    · intro y0 y1 y2 y3 y4 y5 y6 y7 y8 y9 y10 y11 y12 y13 y14 y15 y16 y17 y18 y19 y20
      unfold check_addresses.j2
      repeat' first
      | (with_reducible exact ih0 _ _ _ _ _ _ _ _ _ _ _ _ _ _ _ _ _ _ _ _)
      | (with_reducible exact ih1 _ _ _ _ _ _ _ _ _ _ _ _ _ _ _ _ _ _ _ _)
      | (with_reducible exact ih2 _ _ _ _ _ _ _ _ _ _ _ _ _ _ _ _ _ _ _ _ _)
      | (with_reducible exact check_counts.mono _ _)
      | (with_reducible exact LeO.refl _)
      | (with_reducible exact LeO.none _)
      | (with_reducible refine LeO.ite ?_ ?_)
      | (with_reducible refine LeO.bind ?_ (fun _ => ?_))
      | exact ih0 _ _ _ _ _ _ _ _ _ _ _ _ _ _ _ _ _ _ _ _
      | exact ih1 _ _ _ _ _ _ _ _ _ _ _ _ _ _ _ _ _ _ _ _
      | exact ih2 _ _ _ _ _ _ _ _ _ _ _ _ _ _ _ _ _ _ _ _ _
      | exact check_counts.mono _ _
      | exact LeO.none _
      | refine LeO.ite ?_ ?_
      | refine LeO.bind ?_ (fun _ => ?_)
theorem check_addresses.mono : ∀ a0 a1 a2 a3 a4 a5 a6 a7 a8 a9 a10 a11 a12 a13 a14 a15 a16 a17 a18 k, LeO (check_addresses.f k a0 a1 a2 a3 a4 a5 a6 a7 a8 a9 a10 a11 a12 a13 a14 a15 a16 a17 a18) (check_addresses.f (k + 1) a0 a1 a2 a3 a4 a5 a6 a7 a8 a9 a10 a11 a12 a13 a14 a15 a16 a17 a18) := by
  intro a0 a1 a2 a3 a4 a5 a6 a7 a8 a9 a10 a11 a12 a13 a14 a15 a16 a17 a18 k
  obtain ⟨ih0, ih1, ih2⟩ := check_addresses.mono_l k
  unfold check_addresses.f
  repeat' first
      | (with_reducible exact ih0 _ _ _ _ _ _ _ _ _ _ _ _ _ _ _ _ _ _ _ _)
      | (with_reducible exact ih1 _ _ _ _ _ _ _ _ _ _ _ _ _ _ _ _ _ _ _ _)
      | (with_reducible exact ih2 _ _ _ _ _ _ _ _ _ _ _ _ _ _ _ _ _ _ _ _ _)
      | (with_reducible exact check_counts.mono _ _)
      | (with_reducible exact LeO.refl _)
      | (with_reducible exact LeO.none _)
      | (with_reducible refine LeO.ite ?_ ?_)
      | (with_reducible refine LeO.bind ?_ (fun _ => ?_))
      | exact ih0 _ _ _ _ _ _ _ _ _ _ _ _ _ _ _ _ _ _ _ _
      | exact ih1 _ _ _ _ _ _ _ _ _ _ _ _ _ _ _ _ _ _ _ _
      | exact ih2 _ _ _ _ _ _ _ _ _ _ _ _ _ _ _ _ _ _ _ _ _
      | exact check_counts.mono _ _
      | exact LeO.none _
      | refine LeO.ite ?_ ?_
      | refine LeO.bind ?_ (fun _ => ?_)
set_option maxHeartbeats 8000000 in
set_option maxRecDepth 100000 in
theorem check_addresses.calls (k : Nat) (a0_0 : Int) (a0_1 : Int) (a0_2 : Int) (a0_3 : ByteArray) (a0_4 : Int) (a0_5 : Int) (a0_6 : ByteArray) (a0_7 : Bool) (a0_8 : Int) (a0_9 : ByteArray) (a0_10 : ByteArray) (a0_11 : ByteArray) (a0_12 : ByteArray) (A0_13 : Option Addr) (c0_13 : Nat) (l0_13 : List (S117)) (a0_14 : Int) (a0_15 : Bool) (a0_16 : Bool) (a0_17 : ByteArray) (a0_18 : ByteArray) (r : Int) (w : World) (hr0_13 : Kd.C k117 w A0_13 l0_13.length l0_13) (hc0_13 : l0_13.length ≤ c0_13) (h : check_addresses.f k a0_0 a0_1 a0_2 a0_3 a0_4 a0_5 a0_6 a0_7 a0_8 a0_9 a0_10 a0_11 a0_12 l0_13 a0_14 a0_15 a0_16 a0_17 a0_18 = some r) :
    Calls Try.prog 77 #[.agg #[.int .i64 a0_0, .int .i64 a0_1, .int .i64 a0_2, .string a0_3, .int .i64 a0_4, .int .i64 a0_5, .string a0_6, .bool a0_7, .int .u8 a0_8, .string a0_9, .string a0_10, .string a0_11, .string a0_12, .slice A0_13 l0_13.length c0_13, .int .i64 a0_14, .bool a0_15, .bool a0_16, .string a0_17, .string a0_18]] w fun e w' => e = .returned (.int .i64 r) ∧ Below w.heap.size w w' := by
  have hu27 := Try.underlying27
  have HR0_13 := Aside0.mk hr0_13
  have HC0_13 := Aside0.mk hc0_13
  clear hr0_13 hc0_13
  have HB := Aside0.mk (Below.refl w.heap.size w)
  have H : (if a0_1 = 0 then (check_addresses.j0 k 0 a0_0 a0_1 a0_2 a0_3 a0_4 a0_5 a0_6 a0_7 a0_8 a0_9 a0_10 a0_11 a0_12 l0_13 a0_14 a0_15 a0_16 a0_17 a0_18) else (check_addresses.j0 k (0 + 1) a0_0 a0_1 a0_2 a0_3 a0_4 a0_5 a0_6 a0_7 a0_8 a0_9 a0_10 a0_11 a0_12 l0_13 a0_14 a0_15 a0_16 a0_17 a0_18)) = some r := h
  clear h
  have HC2 := Aside0.mk H
  clear H
  go_enter Try.func77, Try.ntmps77
  go_upto_if 8 with (first | ((with_reducible refine gate_dst (N := 1) rfl ?_); refine box_event ?hg (N := 1) ?hd (cs := #[.int .i64 a0_0, .int .i64 a0_1, .int .i64 a0_2, .string a0_3, .int .i64 a0_4, .int .i64 a0_5, .string a0_6, .bool a0_7, .int .u8 a0_8, .string a0_9, .string a0_10, .string a0_11, .string a0_12, .slice A0_13 l0_13.length c0_13, .int .i64 a0_14, .bool a0_15, .bool a0_16, .string a0_17, .string a0_18]) (t := 27) ?hr ?_; (case hd => rfl); (case hg => rfl); (case hr => first | (go_simp; done) | (go_simp; rfl)); intro gb101 hg w3 hbox hb; have n0_ := Aside0.mk (below_step (by repeat (first | (with_reducible first | exact HB.out | apply below_alloc | apply pw_below_drewN | apply below_drew1) | exact HB.out)) hb); have n1_ := Aside0.mk (hbox); have n2_ := Aside0.mk ((by rw [hg]; exact (below_size (by repeat (first | (with_reducible first | exact HB.out | apply below_alloc | apply pw_below_drewN | apply below_drew1) | exact HB.out))) : w.heap.size ≤ gb101)); have n3_ := Aside0.mk ((by rw [hg]; exact (below_size (by repeat (first | (with_reducible first | exact HB.out | apply below_alloc | apply pw_below_drewN | apply below_drew1) | exact HB.out))) : w.heap.size ≤ gb101)); clear HB; have HB := n0_; have BK101 := n1_; have GW101 := n2_; have GE101 := n3_; clear n0_ n1_ n2_ n3_; clear hb hbox hg; have hcz4_0 : w3.cell? ⟨gb101, 0, none⟩ = some (.int .i64 a0_0) := (blk_cell BK101.out 0).trans rfl; have hcz4_1 : w3.cell? ⟨gb101, 1, none⟩ = some (.int .i64 a0_1) := (blk_cell BK101.out 1).trans rfl; have hcz4_2 : w3.cell? ⟨gb101, 2, none⟩ = some (.int .i64 a0_2) := (blk_cell BK101.out 2).trans rfl; have hcz4_3 : w3.cell? ⟨gb101, 3, none⟩ = some (.string a0_3) := (blk_cell BK101.out 3).trans rfl; have hcz4_4 : w3.cell? ⟨gb101, 4, none⟩ = some (.int .i64 a0_4) := (blk_cell BK101.out 4).trans rfl; have hcz4_5 : w3.cell? ⟨gb101, 5, none⟩ = some (.int .i64 a0_5) := (blk_cell BK101.out 5).trans rfl; have hcz4_6 : w3.cell? ⟨gb101, 6, none⟩ = some (.string a0_6) := (blk_cell BK101.out 6).trans rfl; have hcz4_7 : w3.cell? ⟨gb101, 7, none⟩ = some (.bool a0_7) := (blk_cell BK101.out 7).trans rfl; have hcz4_8 : w3.cell? ⟨gb101, 8, none⟩ = some (.int .u8 a0_8) := (blk_cell BK101.out 8).trans rfl; have hcz4_9 : w3.cell? ⟨gb101, 9, none⟩ = some (.string a0_9) := (blk_cell BK101.out 9).trans rfl; have hcz4_10 : w3.cell? ⟨gb101, 10, none⟩ = some (.string a0_10) := (blk_cell BK101.out 10).trans rfl; have hcz4_11 : w3.cell? ⟨gb101, 11, none⟩ = some (.string a0_11) := (blk_cell BK101.out 11).trans rfl; have hcz4_12 : w3.cell? ⟨gb101, 12, none⟩ = some (.string a0_12) := (blk_cell BK101.out 12).trans rfl; have hcz4_13 : w3.cell? ⟨gb101, 13, none⟩ = some (.slice A0_13 l0_13.length c0_13) := (blk_cell BK101.out 13).trans rfl; have hcz4_14 : w3.cell? ⟨gb101, 14, none⟩ = some (.int .i64 a0_14) := (blk_cell BK101.out 14).trans rfl; have hcz4_15 : w3.cell? ⟨gb101, 15, none⟩ = some (.bool a0_15) := (blk_cell BK101.out 15).trans rfl; have hcz4_16 : w3.cell? ⟨gb101, 16, none⟩ = some (.bool a0_16) := (blk_cell BK101.out 16).trans rfl; have hcz4_17 : w3.cell? ⟨gb101, 17, none⟩ = some (.string a0_17) := (blk_cell BK101.out 17).trans rfl; have hcz4_18 : w3.cell? ⟨gb101, 18, none⟩ = some (.string a0_18) := (blk_cell BK101.out 18).trans rfl; have hfz4_0 := blk_frozen BK101.out 0; have hfz4_1 := blk_frozen BK101.out 1; have hfz4_2 := blk_frozen BK101.out 2; have hfz4_3 := blk_frozen BK101.out 3; have hfz4_4 := blk_frozen BK101.out 4; have hfz4_5 := blk_frozen BK101.out 5; have hfz4_6 := blk_frozen BK101.out 6; have hfz4_7 := blk_frozen BK101.out 7; have hfz4_8 := blk_frozen BK101.out 8; have hfz4_9 := blk_frozen BK101.out 9; have hfz4_10 := blk_frozen BK101.out 10; have hfz4_11 := blk_frozen BK101.out 11; have hfz4_12 := blk_frozen BK101.out 12; have hfz4_13 := blk_frozen BK101.out 13; have hfz4_14 := blk_frozen BK101.out 14; have hfz4_15 := blk_frozen BK101.out 15; have hfz4_16 := blk_frozen BK101.out 16; have hfz4_17 := blk_frozen BK101.out 17; have hfz4_18 := blk_frozen BK101.out 18))
  (try simp only [Act.put, List.setIfInBounds_toArray, List.set_cons_zero, List.set_cons_succ])
  go_cut [3] (fun v3 wc => ∃ (kq : Nat) (x3_1 : Int), v3 = .int .i64 x3_1 ∧ Aside0 (check_addresses.j0 kq x3_1 a0_0 a0_1 a0_2 a0_3 a0_4 a0_5 a0_6 a0_7 a0_8 a0_9 a0_10 a0_11 a0_12 l0_13 a0_14 a0_15 a0_16 a0_17 a0_18 = some r) ∧ Aside0 (kq ≤ k) ∧ Aside0 (wc.heap[gb101]? = some (.cells #[.int .i64 a0_0, .int .i64 a0_1, .int .i64 a0_2, .string a0_3, .int .i64 a0_4, .int .i64 a0_5, .string a0_6, .bool a0_7, .int .u8 a0_8, .string a0_9, .string a0_10, .string a0_11, .string a0_12, (.slice A0_13 l0_13.length c0_13), .int .i64 a0_14, .bool a0_15, .bool a0_16, .string a0_17, .string a0_18] 27 (0, 0))) ∧ Aside0 (Below w.heap.size w wc))
  case first =>
    have H := HC2.out
    clear HC2
    by_cases c5 : a0_1 = 0
    · rw [if_pos c5] at H
      have c5b0 : (a0_1 == 0) = true := beq_iff_eq.mpr c5
      have c5b1 : (a0_1 != 0) = false := bne_eq_false_iff_eq.mpr c5
      clear c5
      (first | rw [c5b0] | (simp only [i64_w, i32_w]; rw [c5b0]) | skip)
      have H' := Aside0.mk H
      clear H
      go_wp2
      go_meet
      case rel => exact ⟨_, (0), (by first | rfl | (simp; done) | (simp [*]; done)), H', ⟨by first | omega | exact Nat.le_refl _⟩, ⟨by (with_reducible repeat (first | refine blk_drewN ?_ _ | refine blk_drew ?_ | refine blk_alloc ?_ _)); exact BK101.out⟩, ⟨by repeat (first | (with_reducible first | exact HB.out | apply below_alloc | apply pw_below_drewN | apply below_drew1 | refine below_set ?_ GE101.out) | exact HB.out)⟩⟩
    · rw [if_neg c5] at H
      have c5b0 : (a0_1 == 0) = false := beq_eq_false_iff_ne.mpr c5
      have c5b1 : (a0_1 != 0) = true := bne_iff_ne.mpr c5
      (first | rw [c5b0] | (simp only [i64_w, i32_w]; rw [c5b0]) | skip)
      have H' := Aside0.mk H
      clear H
      go_wp2
      go_meet
      case rel => exact ⟨_, (0 + 1), (by first | rfl | (simp; done) | (simp [*]; done)), H', ⟨by first | omega | exact Nat.le_refl _⟩, ⟨by (with_reducible repeat (first | refine blk_drewN ?_ _ | refine blk_drew ?_ | refine blk_alloc ?_ _)); exact BK101.out⟩, ⟨by repeat (first | (with_reducible first | exact HB.out | apply below_alloc | apply pw_below_drewN | apply below_drew1 | refine below_set ?_ GE101.out) | exact HB.out)⟩⟩
  case rest =>
    clear HC2
    try clear p2
    try clear c5
    try clear c5b0
    try clear c5b1
    try clear hcz4_0
    try clear hcz4_1
    try clear hcz4_10
    try clear hcz4_11
    try clear hcz4_12
    try clear hcz4_13
    try clear hcz4_14
    try clear hcz4_15
    try clear hcz4_16
    try clear hcz4_17
    try clear hcz4_18
    try clear hcz4_2
    try clear hcz4_3
    try clear hcz4_4
    try clear hcz4_5
    try clear hcz4_6
    try clear hcz4_7
    try clear hcz4_8
    try clear hcz4_9
    try clear hfz4_0
    try clear hfz4_1
    try clear hfz4_10
    try clear hfz4_11
    try clear hfz4_12
    try clear hfz4_13
    try clear hfz4_14
    try clear hfz4_15
    try clear hfz4_16
    try clear hfz4_17
    try clear hfz4_18
    try clear hfz4_2
    try clear hfz4_3
    try clear hfz4_4
    try clear hfz4_5
    try clear hfz4_6
    try clear hfz4_7
    try clear hfz4_8
    try clear hfz4_9
    obtain ⟨kq, x3_1, rfl, HA, HJ1, BK101, HB⟩ := hcut
    cases kq with
    | zero => exact absurd HA.out (by simp [check_addresses.j0])
    | succ kj1 =>
      have H := HA.out
      clear HA
      simp only [check_addresses.j0] at H
      have HC6 := Aside0.mk H
      clear H
      have hcz7_0 : wc.cell? ⟨gb101, 0, none⟩ = some (.int .i64 a0_0) := (blk_cell BK101.out 0).trans rfl
      have hcz7_1 : wc.cell? ⟨gb101, 1, none⟩ = some (.int .i64 a0_1) := (blk_cell BK101.out 1).trans rfl
      have hcz7_2 : wc.cell? ⟨gb101, 2, none⟩ = some (.int .i64 a0_2) := (blk_cell BK101.out 2).trans rfl
      have hcz7_3 : wc.cell? ⟨gb101, 3, none⟩ = some (.string a0_3) := (blk_cell BK101.out 3).trans rfl
      have hcz7_4 : wc.cell? ⟨gb101, 4, none⟩ = some (.int .i64 a0_4) := (blk_cell BK101.out 4).trans rfl
      have hcz7_5 : wc.cell? ⟨gb101, 5, none⟩ = some (.int .i64 a0_5) := (blk_cell BK101.out 5).trans rfl
      have hcz7_6 : wc.cell? ⟨gb101, 6, none⟩ = some (.string a0_6) := (blk_cell BK101.out 6).trans rfl
      have hcz7_7 : wc.cell? ⟨gb101, 7, none⟩ = some (.bool a0_7) := (blk_cell BK101.out 7).trans rfl
      have hcz7_8 : wc.cell? ⟨gb101, 8, none⟩ = some (.int .u8 a0_8) := (blk_cell BK101.out 8).trans rfl
      have hcz7_9 : wc.cell? ⟨gb101, 9, none⟩ = some (.string a0_9) := (blk_cell BK101.out 9).trans rfl
      have hcz7_10 : wc.cell? ⟨gb101, 10, none⟩ = some (.string a0_10) := (blk_cell BK101.out 10).trans rfl
      have hcz7_11 : wc.cell? ⟨gb101, 11, none⟩ = some (.string a0_11) := (blk_cell BK101.out 11).trans rfl
      have hcz7_12 : wc.cell? ⟨gb101, 12, none⟩ = some (.string a0_12) := (blk_cell BK101.out 12).trans rfl
      have hcz7_13 : wc.cell? ⟨gb101, 13, none⟩ = some (.slice A0_13 l0_13.length c0_13) := (blk_cell BK101.out 13).trans rfl
      have hcz7_14 : wc.cell? ⟨gb101, 14, none⟩ = some (.int .i64 a0_14) := (blk_cell BK101.out 14).trans rfl
      have hcz7_15 : wc.cell? ⟨gb101, 15, none⟩ = some (.bool a0_15) := (blk_cell BK101.out 15).trans rfl
      have hcz7_16 : wc.cell? ⟨gb101, 16, none⟩ = some (.bool a0_16) := (blk_cell BK101.out 16).trans rfl
      have hcz7_17 : wc.cell? ⟨gb101, 17, none⟩ = some (.string a0_17) := (blk_cell BK101.out 17).trans rfl
      have hcz7_18 : wc.cell? ⟨gb101, 18, none⟩ = some (.string a0_18) := (blk_cell BK101.out 18).trans rfl
      have hfz7_0 := blk_frozen BK101.out 0
      have hfz7_1 := blk_frozen BK101.out 1
      have hfz7_2 := blk_frozen BK101.out 2
      have hfz7_3 := blk_frozen BK101.out 3
      have hfz7_4 := blk_frozen BK101.out 4
      have hfz7_5 := blk_frozen BK101.out 5
      have hfz7_6 := blk_frozen BK101.out 6
      have hfz7_7 := blk_frozen BK101.out 7
      have hfz7_8 := blk_frozen BK101.out 8
      have hfz7_9 := blk_frozen BK101.out 9
      have hfz7_10 := blk_frozen BK101.out 10
      have hfz7_11 := blk_frozen BK101.out 11
      have hfz7_12 := blk_frozen BK101.out 12
      have hfz7_13 := blk_frozen BK101.out 13
      have hfz7_14 := blk_frozen BK101.out 14
      have hfz7_15 := blk_frozen BK101.out 15
      have hfz7_16 := blk_frozen BK101.out 16
      have hfz7_17 := blk_frozen BK101.out 17
      have hfz7_18 := blk_frozen BK101.out 18
      go_upto_if 14 with (fail)
      go_cut [3] (fun v3 wc => ∃ (kq : Nat) (x3_5 : Int), v3 = .int .i64 x3_5 ∧ Aside0 (check_addresses.j1 kq x3_5 a0_0 a0_1 a0_2 a0_3 a0_4 a0_5 a0_6 a0_7 a0_8 a0_9 a0_10 a0_11 a0_12 l0_13 a0_14 a0_15 a0_16 a0_17 a0_18 = some r) ∧ Aside0 (kq ≤ kj1) ∧ Aside0 (wc.heap[gb101]? = some (.cells #[.int .i64 a0_0, .int .i64 a0_1, .int .i64 a0_2, .string a0_3, .int .i64 a0_4, .int .i64 a0_5, .string a0_6, .bool a0_7, .int .u8 a0_8, .string a0_9, .string a0_10, .string a0_11, .string a0_12, (.slice A0_13 l0_13.length c0_13), .int .i64 a0_14, .bool a0_15, .bool a0_16, .string a0_17, .string a0_18] 27 (0, 0))) ∧ Aside0 (Below w.heap.size w wc))
      case first =>
        have H := HC6.out
        clear HC6
        by_cases c8 : a0_4 = 0
        · rw [if_pos c8] at H
          have c8b0 : (a0_4 == 0) = true := beq_iff_eq.mpr c8
          have c8b1 : (a0_4 != 0) = false := bne_eq_false_iff_eq.mpr c8
          clear c8
          (first | rw [c8b0] | (simp only [i64_w, i32_w]; rw [c8b0]) | skip)
          have H' := Aside0.mk H
          clear H
          go_wp2
          go_meet
          case rel => exact ⟨_, (x3_1), (by first | rfl | (simp; done) | (simp [*]; done)), H', ⟨by have := HJ1.out; first | omega | exact Nat.le_refl _⟩, ⟨by (with_reducible repeat (first | refine blk_drewN ?_ _ | refine blk_drew ?_ | refine blk_alloc ?_ _)); exact BK101.out⟩, ⟨by repeat (first | (with_reducible first | exact HB.out | apply below_alloc | apply pw_below_drewN | apply below_drew1 | refine below_set ?_ GE101.out) | exact HB.out)⟩⟩
        · rw [if_neg c8] at H
          have c8b0 : (a0_4 == 0) = false := beq_eq_false_iff_ne.mpr c8
          have c8b1 : (a0_4 != 0) = true := bne_iff_ne.mpr c8
          (first | rw [c8b0] | (simp only [i64_w, i32_w]; rw [c8b0]) | skip)
          have H' := Aside0.mk H
          clear H
          go_wp2
          go_meet
          case rel => exact ⟨_, (wrap64 (x3_1 + 1)), (by first | rfl | (simp; done) | (simp [*]; done)), H', ⟨by have := HJ1.out; first | omega | exact Nat.le_refl _⟩, ⟨by (with_reducible repeat (first | refine blk_drewN ?_ _ | refine blk_drew ?_ | refine blk_alloc ?_ _)); exact BK101.out⟩, ⟨by repeat (first | (with_reducible first | exact HB.out | apply below_alloc | apply pw_below_drewN | apply below_drew1 | refine below_set ?_ GE101.out) | exact HB.out)⟩⟩
      case rest =>
        clear HC6
        try clear p2
        try clear c5
        try clear c5b0
        try clear c5b1
        try clear p6
        try clear c7
        try clear c8
        try clear c8b0
        try clear c8b1
        try clear hcz4_0
        try clear hcz4_1
        try clear hcz4_10
        try clear hcz4_11
        try clear hcz4_12
        try clear hcz4_13
        try clear hcz4_14
        try clear hcz4_15
        try clear hcz4_16
        try clear hcz4_17
        try clear hcz4_18
        try clear hcz4_2
        try clear hcz4_3
        try clear hcz4_4
        try clear hcz4_5
        try clear hcz4_6
        try clear hcz4_7
        try clear hcz4_8
        try clear hcz4_9
        try clear hcz7_0
        try clear hcz7_1
        try clear hcz7_10
        try clear hcz7_11
        try clear hcz7_12
        try clear hcz7_13
        try clear hcz7_14
        try clear hcz7_15
        try clear hcz7_16
        try clear hcz7_17
        try clear hcz7_18
        try clear hcz7_2
        try clear hcz7_3
        try clear hcz7_4
        try clear hcz7_5
        try clear hcz7_6
        try clear hcz7_7
        try clear hcz7_8
        try clear hcz7_9
        try clear hfz4_0
        try clear hfz4_1
        try clear hfz4_10
        try clear hfz4_11
        try clear hfz4_12
        try clear hfz4_13
        try clear hfz4_14
        try clear hfz4_15
        try clear hfz4_16
        try clear hfz4_17
        try clear hfz4_18
        try clear hfz4_2
        try clear hfz4_3
        try clear hfz4_4
        try clear hfz4_5
        try clear hfz4_6
        try clear hfz4_7
        try clear hfz4_8
        try clear hfz4_9
        try clear hfz7_0
        try clear hfz7_1
        try clear hfz7_10
        try clear hfz7_11
        try clear hfz7_12
        try clear hfz7_13
        try clear hfz7_14
        try clear hfz7_15
        try clear hfz7_16
        try clear hfz7_17
        try clear hfz7_18
        try clear hfz7_2
        try clear hfz7_3
        try clear hfz7_4
        try clear hfz7_5
        try clear hfz7_6
        try clear hfz7_7
        try clear hfz7_8
        try clear hfz7_9
        try clear p2
        obtain ⟨kq, x3_5, rfl, HA, HJ5, BK101, HB⟩ := hcut
        cases kq with
        | zero => exact absurd HA.out (by simp [check_addresses.j1])
        | succ kj5 =>
          have H := HA.out
          clear HA
          simp only [check_addresses.j1] at H
          replace H := Option.bind_eq_some_iff.mp H
          obtain ⟨t102, A90, H⟩ := H
          replace H : (if t102 < 0 then (some 18) else (if x3_5 > t102 then (some 17) else (if x3_5 = 1 then (check_addresses.j2 kj5 t102 (a0_1 == 0) a0_0 a0_1 a0_2 a0_3 a0_4 a0_5 a0_6 a0_7 a0_8 a0_9 a0_10 a0_11 a0_12 l0_13 a0_14 a0_15 a0_16 a0_17 a0_18) else (check_addresses.j2 kj5 t102 false a0_0 a0_1 a0_2 a0_3 a0_4 a0_5 a0_6 a0_7 a0_8 a0_9 a0_10 a0_11 a0_12 l0_13 a0_14 a0_15 a0_16 a0_17 a0_18)))) = some r := H
          have A9 := Aside0.mk A90
          clear A90
          by_cases c10 : t102 < 0
          · rw [if_pos c10] at H
            have c10b0 : decide (t102 < 0) = true := decide_eq_true c10
            clear c10
            obtain rfl := Option.some.inj H
            have hcz11_0 : wc.cell? ⟨gb101, 0, none⟩ = some (.int .i64 a0_0) := (blk_cell BK101.out 0).trans rfl
            have hcz11_1 : wc.cell? ⟨gb101, 1, none⟩ = some (.int .i64 a0_1) := (blk_cell BK101.out 1).trans rfl
            have hcz11_2 : wc.cell? ⟨gb101, 2, none⟩ = some (.int .i64 a0_2) := (blk_cell BK101.out 2).trans rfl
            have hcz11_3 : wc.cell? ⟨gb101, 3, none⟩ = some (.string a0_3) := (blk_cell BK101.out 3).trans rfl
            have hcz11_4 : wc.cell? ⟨gb101, 4, none⟩ = some (.int .i64 a0_4) := (blk_cell BK101.out 4).trans rfl
            have hcz11_5 : wc.cell? ⟨gb101, 5, none⟩ = some (.int .i64 a0_5) := (blk_cell BK101.out 5).trans rfl
            have hcz11_6 : wc.cell? ⟨gb101, 6, none⟩ = some (.string a0_6) := (blk_cell BK101.out 6).trans rfl
            have hcz11_7 : wc.cell? ⟨gb101, 7, none⟩ = some (.bool a0_7) := (blk_cell BK101.out 7).trans rfl
            have hcz11_8 : wc.cell? ⟨gb101, 8, none⟩ = some (.int .u8 a0_8) := (blk_cell BK101.out 8).trans rfl
            have hcz11_9 : wc.cell? ⟨gb101, 9, none⟩ = some (.string a0_9) := (blk_cell BK101.out 9).trans rfl
            have hcz11_10 : wc.cell? ⟨gb101, 10, none⟩ = some (.string a0_10) := (blk_cell BK101.out 10).trans rfl
            have hcz11_11 : wc.cell? ⟨gb101, 11, none⟩ = some (.string a0_11) := (blk_cell BK101.out 11).trans rfl
            have hcz11_12 : wc.cell? ⟨gb101, 12, none⟩ = some (.string a0_12) := (blk_cell BK101.out 12).trans rfl
            have hcz11_13 : wc.cell? ⟨gb101, 13, none⟩ = some (.slice A0_13 l0_13.length c0_13) := (blk_cell BK101.out 13).trans rfl
            have hcz11_14 : wc.cell? ⟨gb101, 14, none⟩ = some (.int .i64 a0_14) := (blk_cell BK101.out 14).trans rfl
            have hcz11_15 : wc.cell? ⟨gb101, 15, none⟩ = some (.bool a0_15) := (blk_cell BK101.out 15).trans rfl
            have hcz11_16 : wc.cell? ⟨gb101, 16, none⟩ = some (.bool a0_16) := (blk_cell BK101.out 16).trans rfl
            have hcz11_17 : wc.cell? ⟨gb101, 17, none⟩ = some (.string a0_17) := (blk_cell BK101.out 17).trans rfl
            have hcz11_18 : wc.cell? ⟨gb101, 18, none⟩ = some (.string a0_18) := (blk_cell BK101.out 18).trans rfl
            have hfz11_0 := blk_frozen BK101.out 0
            have hfz11_1 := blk_frozen BK101.out 1
            have hfz11_2 := blk_frozen BK101.out 2
            have hfz11_3 := blk_frozen BK101.out 3
            have hfz11_4 := blk_frozen BK101.out 4
            have hfz11_5 := blk_frozen BK101.out 5
            have hfz11_6 := blk_frozen BK101.out 6
            have hfz11_7 := blk_frozen BK101.out 7
            have hfz11_8 := blk_frozen BK101.out 8
            have hfz11_9 := blk_frozen BK101.out 9
            have hfz11_10 := blk_frozen BK101.out 10
            have hfz11_11 := blk_frozen BK101.out 11
            have hfz11_12 := blk_frozen BK101.out 12
            have hfz11_13 := blk_frozen BK101.out 13
            have hfz11_14 := blk_frozen BK101.out 14
            have hfz11_15 := blk_frozen BK101.out 15
            have hfz11_16 := blk_frozen BK101.out 16
            have hfz11_17 := blk_frozen BK101.out 17
            have hfz11_18 := blk_frozen BK101.out 18
            go_wp2_with (first | ((with_reducible refine gate_callee (f := 85) rfl ?_); refine goesL_ (some 19) rfl rfl Try.func85 (by kernel_rfl) rfl #[.int .u8 a0_8] rfl (by (try simp only [List.map_toArray, List.map_cons, List.map_nil]); first | done | rfl | (simp only [List.length_drop, List.length_take]; rfl)) ?_; (with_reducible refine (check_counts.calls kj5 a0_8 t102 _ A9.out).mono ?_); rintro e w' ⟨rfl, ⟨nd, rfl⟩⟩; refine ⟨_, rfl, ?_⟩))
            go_ret
            exact ⟨by first | rfl | (simp only [wrap_wrap]; done) | (simp only [wrap_wrap]; rfl) | (simp [errW_none, errW_some] <;> rfl) | (simp [*, errW_none, errW_some] <;> rfl), by repeat (first | (with_reducible first | exact HB.out | apply below_alloc | apply pw_below_drewN | apply below_drew1 | refine below_set ?_ GE101.out) | exact HB.out)⟩
          · rw [if_neg c10] at H
            have c10b0 : decide (t102 < 0) = false := decide_eq_false c10
            clear c10
            by_cases c12 : x3_5 > t102
            · rw [if_pos c12] at H
              have c12b0 : decide (t102 < x3_5) = true := decide_eq_true c12
              clear c12
              obtain rfl := Option.some.inj H
              have hcz13_0 : wc.cell? ⟨gb101, 0, none⟩ = some (.int .i64 a0_0) := (blk_cell BK101.out 0).trans rfl
              have hcz13_1 : wc.cell? ⟨gb101, 1, none⟩ = some (.int .i64 a0_1) := (blk_cell BK101.out 1).trans rfl
              have hcz13_2 : wc.cell? ⟨gb101, 2, none⟩ = some (.int .i64 a0_2) := (blk_cell BK101.out 2).trans rfl
              have hcz13_3 : wc.cell? ⟨gb101, 3, none⟩ = some (.string a0_3) := (blk_cell BK101.out 3).trans rfl
              have hcz13_4 : wc.cell? ⟨gb101, 4, none⟩ = some (.int .i64 a0_4) := (blk_cell BK101.out 4).trans rfl
              have hcz13_5 : wc.cell? ⟨gb101, 5, none⟩ = some (.int .i64 a0_5) := (blk_cell BK101.out 5).trans rfl
              have hcz13_6 : wc.cell? ⟨gb101, 6, none⟩ = some (.string a0_6) := (blk_cell BK101.out 6).trans rfl
              have hcz13_7 : wc.cell? ⟨gb101, 7, none⟩ = some (.bool a0_7) := (blk_cell BK101.out 7).trans rfl
              have hcz13_8 : wc.cell? ⟨gb101, 8, none⟩ = some (.int .u8 a0_8) := (blk_cell BK101.out 8).trans rfl
              have hcz13_9 : wc.cell? ⟨gb101, 9, none⟩ = some (.string a0_9) := (blk_cell BK101.out 9).trans rfl
              have hcz13_10 : wc.cell? ⟨gb101, 10, none⟩ = some (.string a0_10) := (blk_cell BK101.out 10).trans rfl
              have hcz13_11 : wc.cell? ⟨gb101, 11, none⟩ = some (.string a0_11) := (blk_cell BK101.out 11).trans rfl
              have hcz13_12 : wc.cell? ⟨gb101, 12, none⟩ = some (.string a0_12) := (blk_cell BK101.out 12).trans rfl
              have hcz13_13 : wc.cell? ⟨gb101, 13, none⟩ = some (.slice A0_13 l0_13.length c0_13) := (blk_cell BK101.out 13).trans rfl
              have hcz13_14 : wc.cell? ⟨gb101, 14, none⟩ = some (.int .i64 a0_14) := (blk_cell BK101.out 14).trans rfl
              have hcz13_15 : wc.cell? ⟨gb101, 15, none⟩ = some (.bool a0_15) := (blk_cell BK101.out 15).trans rfl
              have hcz13_16 : wc.cell? ⟨gb101, 16, none⟩ = some (.bool a0_16) := (blk_cell BK101.out 16).trans rfl
              have hcz13_17 : wc.cell? ⟨gb101, 17, none⟩ = some (.string a0_17) := (blk_cell BK101.out 17).trans rfl
              have hcz13_18 : wc.cell? ⟨gb101, 18, none⟩ = some (.string a0_18) := (blk_cell BK101.out 18).trans rfl
              have hfz13_0 := blk_frozen BK101.out 0
              have hfz13_1 := blk_frozen BK101.out 1
              have hfz13_2 := blk_frozen BK101.out 2
              have hfz13_3 := blk_frozen BK101.out 3
              have hfz13_4 := blk_frozen BK101.out 4
              have hfz13_5 := blk_frozen BK101.out 5
              have hfz13_6 := blk_frozen BK101.out 6
              have hfz13_7 := blk_frozen BK101.out 7
              have hfz13_8 := blk_frozen BK101.out 8
              have hfz13_9 := blk_frozen BK101.out 9
              have hfz13_10 := blk_frozen BK101.out 10
              have hfz13_11 := blk_frozen BK101.out 11
              have hfz13_12 := blk_frozen BK101.out 12
              have hfz13_13 := blk_frozen BK101.out 13
              have hfz13_14 := blk_frozen BK101.out 14
              have hfz13_15 := blk_frozen BK101.out 15
              have hfz13_16 := blk_frozen BK101.out 16
              have hfz13_17 := blk_frozen BK101.out 17
              have hfz13_18 := blk_frozen BK101.out 18
              go_wp2_with (first | ((with_reducible refine gate_callee (f := 85) rfl ?_); refine goesL_ (some 19) rfl rfl Try.func85 (by kernel_rfl) rfl #[.int .u8 a0_8] rfl (by (try simp only [List.map_toArray, List.map_cons, List.map_nil]); first | done | rfl | (simp only [List.length_drop, List.length_take]; rfl)) ?_; (with_reducible refine (check_counts.calls kj5 a0_8 t102 _ A9.out).mono ?_); rintro e w' ⟨rfl, ⟨nd, rfl⟩⟩; refine ⟨_, rfl, ?_⟩))
              go_ret
              exact ⟨by first | rfl | (simp only [wrap_wrap]; done) | (simp only [wrap_wrap]; rfl) | (simp [errW_none, errW_some] <;> rfl) | (simp [*, errW_none, errW_some] <;> rfl), by repeat (first | (with_reducible first | exact HB.out | apply below_alloc | apply pw_below_drewN | apply below_drew1 | refine below_set ?_ GE101.out) | exact HB.out)⟩
            · rw [if_neg c12] at H
              have c12b0 : decide (t102 < x3_5) = false := decide_eq_false c12
              clear c12
              have HC14 := Aside0.mk H
              clear H
              have hcz15_0 : wc.cell? ⟨gb101, 0, none⟩ = some (.int .i64 a0_0) := (blk_cell BK101.out 0).trans rfl
              have hcz15_1 : wc.cell? ⟨gb101, 1, none⟩ = some (.int .i64 a0_1) := (blk_cell BK101.out 1).trans rfl
              have hcz15_2 : wc.cell? ⟨gb101, 2, none⟩ = some (.int .i64 a0_2) := (blk_cell BK101.out 2).trans rfl
              have hcz15_3 : wc.cell? ⟨gb101, 3, none⟩ = some (.string a0_3) := (blk_cell BK101.out 3).trans rfl
              have hcz15_4 : wc.cell? ⟨gb101, 4, none⟩ = some (.int .i64 a0_4) := (blk_cell BK101.out 4).trans rfl
              have hcz15_5 : wc.cell? ⟨gb101, 5, none⟩ = some (.int .i64 a0_5) := (blk_cell BK101.out 5).trans rfl
              have hcz15_6 : wc.cell? ⟨gb101, 6, none⟩ = some (.string a0_6) := (blk_cell BK101.out 6).trans rfl
              have hcz15_7 : wc.cell? ⟨gb101, 7, none⟩ = some (.bool a0_7) := (blk_cell BK101.out 7).trans rfl
              have hcz15_8 : wc.cell? ⟨gb101, 8, none⟩ = some (.int .u8 a0_8) := (blk_cell BK101.out 8).trans rfl
              have hcz15_9 : wc.cell? ⟨gb101, 9, none⟩ = some (.string a0_9) := (blk_cell BK101.out 9).trans rfl
              have hcz15_10 : wc.cell? ⟨gb101, 10, none⟩ = some (.string a0_10) := (blk_cell BK101.out 10).trans rfl
              have hcz15_11 : wc.cell? ⟨gb101, 11, none⟩ = some (.string a0_11) := (blk_cell BK101.out 11).trans rfl
              have hcz15_12 : wc.cell? ⟨gb101, 12, none⟩ = some (.string a0_12) := (blk_cell BK101.out 12).trans rfl
              have hcz15_13 : wc.cell? ⟨gb101, 13, none⟩ = some (.slice A0_13 l0_13.length c0_13) := (blk_cell BK101.out 13).trans rfl
              have hcz15_14 : wc.cell? ⟨gb101, 14, none⟩ = some (.int .i64 a0_14) := (blk_cell BK101.out 14).trans rfl
              have hcz15_15 : wc.cell? ⟨gb101, 15, none⟩ = some (.bool a0_15) := (blk_cell BK101.out 15).trans rfl
              have hcz15_16 : wc.cell? ⟨gb101, 16, none⟩ = some (.bool a0_16) := (blk_cell BK101.out 16).trans rfl
              have hcz15_17 : wc.cell? ⟨gb101, 17, none⟩ = some (.string a0_17) := (blk_cell BK101.out 17).trans rfl
              have hcz15_18 : wc.cell? ⟨gb101, 18, none⟩ = some (.string a0_18) := (blk_cell BK101.out 18).trans rfl
              have hfz15_0 := blk_frozen BK101.out 0
              have hfz15_1 := blk_frozen BK101.out 1
              have hfz15_2 := blk_frozen BK101.out 2
              have hfz15_3 := blk_frozen BK101.out 3
              have hfz15_4 := blk_frozen BK101.out 4
              have hfz15_5 := blk_frozen BK101.out 5
              have hfz15_6 := blk_frozen BK101.out 6
              have hfz15_7 := blk_frozen BK101.out 7
              have hfz15_8 := blk_frozen BK101.out 8
              have hfz15_9 := blk_frozen BK101.out 9
              have hfz15_10 := blk_frozen BK101.out 10
              have hfz15_11 := blk_frozen BK101.out 11
              have hfz15_12 := blk_frozen BK101.out 12
              have hfz15_13 := blk_frozen BK101.out 13
              have hfz15_14 := blk_frozen BK101.out 14
              have hfz15_15 := blk_frozen BK101.out 15
              have hfz15_16 := blk_frozen BK101.out 16
              have hfz15_17 := blk_frozen BK101.out 17
              have hfz15_18 := blk_frozen BK101.out 18
              go_upto_region 10 with (first | ((with_reducible refine gate_callee (f := 85) rfl ?_); refine goesL_ (some 19) rfl rfl Try.func85 (by kernel_rfl) rfl #[.int .u8 a0_8] rfl (by (try simp only [List.map_toArray, List.map_cons, List.map_nil]); first | done | rfl | (simp only [List.length_drop, List.length_take]; rfl)) ?_; (with_reducible refine (check_counts.calls kj5 a0_8 t102 _ A9.out).mono ?_); rintro e w' ⟨rfl, ⟨nd, rfl⟩⟩; refine ⟨_, rfl, ?_⟩))
              (try simp only [Act.put, List.setIfInBounds_toArray, List.set_cons_zero, List.set_cons_succ])
              go_cut [23] (fun v23 wc => ∃ (kq : Nat) (x23_13 : Bool), v23 = .bool x23_13 ∧ Aside0 (check_addresses.j2 kq t102 x23_13 a0_0 a0_1 a0_2 a0_3 a0_4 a0_5 a0_6 a0_7 a0_8 a0_9 a0_10 a0_11 a0_12 l0_13 a0_14 a0_15 a0_16 a0_17 a0_18 = some r) ∧ Aside0 (kq ≤ kj5) ∧ Aside0 (wc.heap[gb101]? = some (.cells #[.int .i64 a0_0, .int .i64 a0_1, .int .i64 a0_2, .string a0_3, .int .i64 a0_4, .int .i64 a0_5, .string a0_6, .bool a0_7, .int .u8 a0_8, .string a0_9, .string a0_10, .string a0_11, .string a0_12, (.slice A0_13 l0_13.length c0_13), .int .i64 a0_14, .bool a0_15, .bool a0_16, .string a0_17, .string a0_18] 27 (0, 0))) ∧ Aside0 (Below w.heap.size w wc))
              case first =>
                have H := HC14.out
                clear HC14
                by_cases c16 : x3_5 = 1
                · rw [if_pos c16] at H
                  have c16b0 : (x3_5 == 1) = true := beq_iff_eq.mpr c16
                  have c16b1 : (x3_5 != 1) = false := bne_eq_false_iff_eq.mpr c16
                  clear c16
                  (first | rw [c16b0] | (simp only [i64_w, i32_w]; rw [c16b0]) | skip)
                  have H' := Aside0.mk H
                  clear H
                  have hcz17_0 : wc.cell? ⟨gb101, 0, none⟩ = some (.int .i64 a0_0) := (blk_cell BK101.out 0).trans rfl
                  have hcz17_1 : wc.cell? ⟨gb101, 1, none⟩ = some (.int .i64 a0_1) := (blk_cell BK101.out 1).trans rfl
                  have hcz17_2 : wc.cell? ⟨gb101, 2, none⟩ = some (.int .i64 a0_2) := (blk_cell BK101.out 2).trans rfl
                  have hcz17_3 : wc.cell? ⟨gb101, 3, none⟩ = some (.string a0_3) := (blk_cell BK101.out 3).trans rfl
                  have hcz17_4 : wc.cell? ⟨gb101, 4, none⟩ = some (.int .i64 a0_4) := (blk_cell BK101.out 4).trans rfl
                  have hcz17_5 : wc.cell? ⟨gb101, 5, none⟩ = some (.int .i64 a0_5) := (blk_cell BK101.out 5).trans rfl
                  have hcz17_6 : wc.cell? ⟨gb101, 6, none⟩ = some (.string a0_6) := (blk_cell BK101.out 6).trans rfl
                  have hcz17_7 : wc.cell? ⟨gb101, 7, none⟩ = some (.bool a0_7) := (blk_cell BK101.out 7).trans rfl
                  have hcz17_8 : wc.cell? ⟨gb101, 8, none⟩ = some (.int .u8 a0_8) := (blk_cell BK101.out 8).trans rfl
                  have hcz17_9 : wc.cell? ⟨gb101, 9, none⟩ = some (.string a0_9) := (blk_cell BK101.out 9).trans rfl
                  have hcz17_10 : wc.cell? ⟨gb101, 10, none⟩ = some (.string a0_10) := (blk_cell BK101.out 10).trans rfl
                  have hcz17_11 : wc.cell? ⟨gb101, 11, none⟩ = some (.string a0_11) := (blk_cell BK101.out 11).trans rfl
                  have hcz17_12 : wc.cell? ⟨gb101, 12, none⟩ = some (.string a0_12) := (blk_cell BK101.out 12).trans rfl
                  have hcz17_13 : wc.cell? ⟨gb101, 13, none⟩ = some (.slice A0_13 l0_13.length c0_13) := (blk_cell BK101.out 13).trans rfl
                  have hcz17_14 : wc.cell? ⟨gb101, 14, none⟩ = some (.int .i64 a0_14) := (blk_cell BK101.out 14).trans rfl
                  have hcz17_15 : wc.cell? ⟨gb101, 15, none⟩ = some (.bool a0_15) := (blk_cell BK101.out 15).trans rfl
                  have hcz17_16 : wc.cell? ⟨gb101, 16, none⟩ = some (.bool a0_16) := (blk_cell BK101.out 16).trans rfl
                  have hcz17_17 : wc.cell? ⟨gb101, 17, none⟩ = some (.string a0_17) := (blk_cell BK101.out 17).trans rfl
                  have hcz17_18 : wc.cell? ⟨gb101, 18, none⟩ = some (.string a0_18) := (blk_cell BK101.out 18).trans rfl
                  have hfz17_0 := blk_frozen BK101.out 0
                  have hfz17_1 := blk_frozen BK101.out 1
                  have hfz17_2 := blk_frozen BK101.out 2
                  have hfz17_3 := blk_frozen BK101.out 3
                  have hfz17_4 := blk_frozen BK101.out 4
                  have hfz17_5 := blk_frozen BK101.out 5
                  have hfz17_6 := blk_frozen BK101.out 6
                  have hfz17_7 := blk_frozen BK101.out 7
                  have hfz17_8 := blk_frozen BK101.out 8
                  have hfz17_9 := blk_frozen BK101.out 9
                  have hfz17_10 := blk_frozen BK101.out 10
                  have hfz17_11 := blk_frozen BK101.out 11
                  have hfz17_12 := blk_frozen BK101.out 12
                  have hfz17_13 := blk_frozen BK101.out 13
                  have hfz17_14 := blk_frozen BK101.out 14
                  have hfz17_15 := blk_frozen BK101.out 15
                  have hfz17_16 := blk_frozen BK101.out 16
                  have hfz17_17 := blk_frozen BK101.out 17
                  have hfz17_18 := blk_frozen BK101.out 18
                  go_wp2
                  go_meet
                  case rel => exact ⟨_, ((a0_1 == 0)), (by first | rfl | (simp; done) | (simp [*]; done)), H', ⟨by have := HJ1.out; have := HJ5.out; first | omega | exact Nat.le_refl _⟩, ⟨by (with_reducible repeat (first | refine blk_drewN ?_ _ | refine blk_drew ?_ | refine blk_alloc ?_ _)); exact BK101.out⟩, ⟨by repeat (first | (with_reducible first | exact HB.out | apply below_alloc | apply pw_below_drewN | apply below_drew1 | refine below_set ?_ GE101.out) | exact HB.out)⟩⟩
                · rw [if_neg c16] at H
                  have c16b0 : (x3_5 == 1) = false := beq_eq_false_iff_ne.mpr c16
                  have c16b1 : (x3_5 != 1) = true := bne_iff_ne.mpr c16
                  (first | rw [c16b0] | (simp only [i64_w, i32_w]; rw [c16b0]) | skip)
                  have H' := Aside0.mk H
                  clear H
                  go_wp2
                  go_meet
                  case rel => exact ⟨_, (false), (by first | rfl | (simp; done) | (simp [*]; done)), H', ⟨by have := HJ1.out; have := HJ5.out; first | omega | exact Nat.le_refl _⟩, ⟨by (with_reducible repeat (first | refine blk_drewN ?_ _ | refine blk_drew ?_ | refine blk_alloc ?_ _)); exact BK101.out⟩, ⟨by repeat (first | (with_reducible first | exact HB.out | apply below_alloc | apply pw_below_drewN | apply below_drew1 | refine below_set ?_ GE101.out) | exact HB.out)⟩⟩
              case rest =>
                clear HC14
                try clear c1
                try clear p2
                try clear c5
                try clear c5b0
                try clear c5b1
                try clear p6
                try clear c7
                try clear c8
                try clear c8b0
                try clear c8b1
                try clear c10
                try clear c10b0
                try clear c12
                try clear c12b0
                try clear c16
                try clear c16b0
                try clear c16b1
                try clear hcz11_0
                try clear hcz11_1
                try clear hcz11_10
                try clear hcz11_11
                try clear hcz11_12
                try clear hcz11_13
                try clear hcz11_14
                try clear hcz11_15
                try clear hcz11_16
                try clear hcz11_17
                try clear hcz11_18
                try clear hcz11_2
                try clear hcz11_3
                try clear hcz11_4
                try clear hcz11_5
                try clear hcz11_6
                try clear hcz11_7
                try clear hcz11_8
                try clear hcz11_9
                try clear hcz13_0
                try clear hcz13_1
                try clear hcz13_10
                try clear hcz13_11
                try clear hcz13_12
                try clear hcz13_13
                try clear hcz13_14
                try clear hcz13_15
                try clear hcz13_16
                try clear hcz13_17
                try clear hcz13_18
                try clear hcz13_2
                try clear hcz13_3
                try clear hcz13_4
                try clear hcz13_5
                try clear hcz13_6
                try clear hcz13_7
                try clear hcz13_8
                try clear hcz13_9
                try clear hcz15_0
                try clear hcz15_1
                try clear hcz15_10
                try clear hcz15_11
                try clear hcz15_12
                try clear hcz15_13
                try clear hcz15_14
                try clear hcz15_15
                try clear hcz15_16
                try clear hcz15_17
                try clear hcz15_18
                try clear hcz15_2
                try clear hcz15_3
                try clear hcz15_4
                try clear hcz15_5
                try clear hcz15_6
                try clear hcz15_7
                try clear hcz15_8
                try clear hcz15_9
                try clear hcz17_0
                try clear hcz17_1
                try clear hcz17_10
                try clear hcz17_11
                try clear hcz17_12
                try clear hcz17_13
                try clear hcz17_14
                try clear hcz17_15
                try clear hcz17_16
                try clear hcz17_17
                try clear hcz17_18
                try clear hcz17_2
                try clear hcz17_3
                try clear hcz17_4
                try clear hcz17_5
                try clear hcz17_6
                try clear hcz17_7
                try clear hcz17_8
                try clear hcz17_9
                try clear hcz4_0
                try clear hcz4_1
                try clear hcz4_10
                try clear hcz4_11
                try clear hcz4_12
                try clear hcz4_13
                try clear hcz4_14
                try clear hcz4_15
                try clear hcz4_16
                try clear hcz4_17
                try clear hcz4_18
                try clear hcz4_2
                try clear hcz4_3
                try clear hcz4_4
                try clear hcz4_5
                try clear hcz4_6
                try clear hcz4_7
                try clear hcz4_8
                try clear hcz4_9
                try clear hcz7_0
                try clear hcz7_1
                try clear hcz7_10
                try clear hcz7_11
                try clear hcz7_12
                try clear hcz7_13
                try clear hcz7_14
                try clear hcz7_15
                try clear hcz7_16
                try clear hcz7_17
                try clear hcz7_18
                try clear hcz7_2
                try clear hcz7_3
                try clear hcz7_4
                try clear hcz7_5
                try clear hcz7_6
                try clear hcz7_7
                try clear hcz7_8
                try clear hcz7_9
                try clear hfz11_0
                try clear hfz11_1
                try clear hfz11_10
                try clear hfz11_11
                try clear hfz11_12
                try clear hfz11_13
                try clear hfz11_14
                try clear hfz11_15
                try clear hfz11_16
                try clear hfz11_17
                try clear hfz11_18
                try clear hfz11_2
                try clear hfz11_3
                try clear hfz11_4
                try clear hfz11_5
                try clear hfz11_6
                try clear hfz11_7
                try clear hfz11_8
                try clear hfz11_9
                try clear hfz13_0
                try clear hfz13_1
                try clear hfz13_10
                try clear hfz13_11
                try clear hfz13_12
                try clear hfz13_13
                try clear hfz13_14
                try clear hfz13_15
                try clear hfz13_16
                try clear hfz13_17
                try clear hfz13_18
                try clear hfz13_2
                try clear hfz13_3
                try clear hfz13_4
                try clear hfz13_5
                try clear hfz13_6
                try clear hfz13_7
                try clear hfz13_8
                try clear hfz13_9
                try clear hfz15_0
                try clear hfz15_1
                try clear hfz15_10
                try clear hfz15_11
                try clear hfz15_12
                try clear hfz15_13
                try clear hfz15_14
                try clear hfz15_15
                try clear hfz15_16
                try clear hfz15_17
                try clear hfz15_18
                try clear hfz15_2
                try clear hfz15_3
                try clear hfz15_4
                try clear hfz15_5
                try clear hfz15_6
                try clear hfz15_7
                try clear hfz15_8
                try clear hfz15_9
                try clear hfz17_0
                try clear hfz17_1
                try clear hfz17_10
                try clear hfz17_11
                try clear hfz17_12
                try clear hfz17_13
                try clear hfz17_14
                try clear hfz17_15
                try clear hfz17_16
                try clear hfz17_17
                try clear hfz17_18
                try clear hfz17_2
                try clear hfz17_3
                try clear hfz17_4
                try clear hfz17_5
                try clear hfz17_6
                try clear hfz17_7
                try clear hfz17_8
                try clear hfz17_9
                try clear hfz4_0
                try clear hfz4_1
                try clear hfz4_10
                try clear hfz4_11
                try clear hfz4_12
                try clear hfz4_13
                try clear hfz4_14
                try clear hfz4_15
                try clear hfz4_16
                try clear hfz4_17
                try clear hfz4_18
                try clear hfz4_2
                try clear hfz4_3
                try clear hfz4_4
                try clear hfz4_5
                try clear hfz4_6
                try clear hfz4_7
                try clear hfz4_8
                try clear hfz4_9
                try clear hfz7_0
                try clear hfz7_1
                try clear hfz7_10
                try clear hfz7_11
                try clear hfz7_12
                try clear hfz7_13
                try clear hfz7_14
                try clear hfz7_15
                try clear hfz7_16
                try clear hfz7_17
                try clear hfz7_18
                try clear hfz7_2
                try clear hfz7_3
                try clear hfz7_4
                try clear hfz7_5
                try clear hfz7_6
                try clear hfz7_7
                try clear hfz7_8
                try clear hfz7_9
                try clear p2
                try clear p6
                obtain ⟨kq, x23_13, rfl, HA, HJ13, BK101, HB⟩ := hcut
                cases kq with
                | zero => exact absurd HA.out (by simp [check_addresses.j2])
                | succ kj13 =>
                  have H := HA.out
                  clear HA
                  simp only [check_addresses.j2] at H
                  by_cases c18 : x23_13 = true
                  · subst c18
                    have H1 : (some 17) = some r := by rw [if_pos rfl] at H; exact H
                    clear H
                    have H := H1
                    clear H1
                    obtain rfl := Option.some.inj H
                    go_wp2
                    go_ret
                    exact ⟨by first | rfl | (simp only [wrap_wrap]; done) | (simp only [wrap_wrap]; rfl) | (simp [errW_none, errW_some] <;> rfl) | (simp [*, errW_none, errW_some] <;> rfl), by repeat (first | (with_reducible first | exact HB.out | apply below_alloc | apply pw_below_drewN | apply below_drew1 | refine below_set ?_ GE101.out) | exact HB.out)⟩
                  · replace c18 := Bool.eq_false_iff.mpr c18
                    subst c18
                    have H1 : (if t102 = 0 then (if a0_7 = true then (some 17) else (some 0)) else (some 0)) = some r := by rw [if_neg (show ¬ (false = true) by decide)] at H; exact H
                    clear H
                    have H := H1
                    clear H1
                    by_cases c19 : t102 = 0
                    · rw [if_pos c19] at H
                      have c19b0 : (t102 == 0) = true := beq_iff_eq.mpr c19
                      have c19b1 : (t102 != 0) = false := bne_eq_false_iff_eq.mpr c19
                      clear c19
                      by_cases c20 : a0_7 = true
                      · subst c20
                        have H1 : (some 17) = some r := by rw [if_pos rfl] at H; exact H
                        clear H
                        have H := H1
                        clear H1
                        obtain rfl := Option.some.inj H
                        have hcz21_0 : wc.cell? ⟨gb101, 0, none⟩ = some (.int .i64 a0_0) := (blk_cell BK101.out 0).trans rfl
                        have hcz21_1 : wc.cell? ⟨gb101, 1, none⟩ = some (.int .i64 a0_1) := (blk_cell BK101.out 1).trans rfl
                        have hcz21_2 : wc.cell? ⟨gb101, 2, none⟩ = some (.int .i64 a0_2) := (blk_cell BK101.out 2).trans rfl
                        have hcz21_3 : wc.cell? ⟨gb101, 3, none⟩ = some (.string a0_3) := (blk_cell BK101.out 3).trans rfl
                        have hcz21_4 : wc.cell? ⟨gb101, 4, none⟩ = some (.int .i64 a0_4) := (blk_cell BK101.out 4).trans rfl
                        have hcz21_5 : wc.cell? ⟨gb101, 5, none⟩ = some (.int .i64 a0_5) := (blk_cell BK101.out 5).trans rfl
                        have hcz21_6 : wc.cell? ⟨gb101, 6, none⟩ = some (.string a0_6) := (blk_cell BK101.out 6).trans rfl
                        have hcz21_7 : wc.cell? ⟨gb101, 7, none⟩ = some (.bool true) := (blk_cell BK101.out 7).trans rfl
                        have hcz21_8 : wc.cell? ⟨gb101, 8, none⟩ = some (.int .u8 a0_8) := (blk_cell BK101.out 8).trans rfl
                        have hcz21_9 : wc.cell? ⟨gb101, 9, none⟩ = some (.string a0_9) := (blk_cell BK101.out 9).trans rfl
                        have hcz21_10 : wc.cell? ⟨gb101, 10, none⟩ = some (.string a0_10) := (blk_cell BK101.out 10).trans rfl
                        have hcz21_11 : wc.cell? ⟨gb101, 11, none⟩ = some (.string a0_11) := (blk_cell BK101.out 11).trans rfl
                        have hcz21_12 : wc.cell? ⟨gb101, 12, none⟩ = some (.string a0_12) := (blk_cell BK101.out 12).trans rfl
                        have hcz21_13 : wc.cell? ⟨gb101, 13, none⟩ = some (.slice A0_13 l0_13.length c0_13) := (blk_cell BK101.out 13).trans rfl
                        have hcz21_14 : wc.cell? ⟨gb101, 14, none⟩ = some (.int .i64 a0_14) := (blk_cell BK101.out 14).trans rfl
                        have hcz21_15 : wc.cell? ⟨gb101, 15, none⟩ = some (.bool a0_15) := (blk_cell BK101.out 15).trans rfl
                        have hcz21_16 : wc.cell? ⟨gb101, 16, none⟩ = some (.bool a0_16) := (blk_cell BK101.out 16).trans rfl
                        have hcz21_17 : wc.cell? ⟨gb101, 17, none⟩ = some (.string a0_17) := (blk_cell BK101.out 17).trans rfl
                        have hcz21_18 : wc.cell? ⟨gb101, 18, none⟩ = some (.string a0_18) := (blk_cell BK101.out 18).trans rfl
                        have hfz21_0 := blk_frozen BK101.out 0
                        have hfz21_1 := blk_frozen BK101.out 1
                        have hfz21_2 := blk_frozen BK101.out 2
                        have hfz21_3 := blk_frozen BK101.out 3
                        have hfz21_4 := blk_frozen BK101.out 4
                        have hfz21_5 := blk_frozen BK101.out 5
                        have hfz21_6 := blk_frozen BK101.out 6
                        have hfz21_7 := blk_frozen BK101.out 7
                        have hfz21_8 := blk_frozen BK101.out 8
                        have hfz21_9 := blk_frozen BK101.out 9
                        have hfz21_10 := blk_frozen BK101.out 10
                        have hfz21_11 := blk_frozen BK101.out 11
                        have hfz21_12 := blk_frozen BK101.out 12
                        have hfz21_13 := blk_frozen BK101.out 13
                        have hfz21_14 := blk_frozen BK101.out 14
                        have hfz21_15 := blk_frozen BK101.out 15
                        have hfz21_16 := blk_frozen BK101.out 16
                        have hfz21_17 := blk_frozen BK101.out 17
                        have hfz21_18 := blk_frozen BK101.out 18
                        go_wp2
                        go_ret
                        exact ⟨by first | rfl | (simp only [wrap_wrap]; done) | (simp only [wrap_wrap]; rfl) | (simp [errW_none, errW_some] <;> rfl) | (simp [*, errW_none, errW_some] <;> rfl), by repeat (first | (with_reducible first | exact HB.out | apply below_alloc | apply pw_below_drewN | apply below_drew1 | refine below_set ?_ GE101.out) | exact HB.out)⟩
                      · replace c20 := Bool.eq_false_iff.mpr c20
                        subst c20
                        have H1 : (some 0) = some r := by rw [if_neg (show ¬ (false = true) by decide)] at H; exact H
                        clear H
                        have H := H1
                        clear H1
                        obtain rfl := Option.some.inj H
                        have hcz22_0 : wc.cell? ⟨gb101, 0, none⟩ = some (.int .i64 a0_0) := (blk_cell BK101.out 0).trans rfl
                        have hcz22_1 : wc.cell? ⟨gb101, 1, none⟩ = some (.int .i64 a0_1) := (blk_cell BK101.out 1).trans rfl
                        have hcz22_2 : wc.cell? ⟨gb101, 2, none⟩ = some (.int .i64 a0_2) := (blk_cell BK101.out 2).trans rfl
                        have hcz22_3 : wc.cell? ⟨gb101, 3, none⟩ = some (.string a0_3) := (blk_cell BK101.out 3).trans rfl
                        have hcz22_4 : wc.cell? ⟨gb101, 4, none⟩ = some (.int .i64 a0_4) := (blk_cell BK101.out 4).trans rfl
                        have hcz22_5 : wc.cell? ⟨gb101, 5, none⟩ = some (.int .i64 a0_5) := (blk_cell BK101.out 5).trans rfl
                        have hcz22_6 : wc.cell? ⟨gb101, 6, none⟩ = some (.string a0_6) := (blk_cell BK101.out 6).trans rfl
                        have hcz22_7 : wc.cell? ⟨gb101, 7, none⟩ = some (.bool false) := (blk_cell BK101.out 7).trans rfl
                        have hcz22_8 : wc.cell? ⟨gb101, 8, none⟩ = some (.int .u8 a0_8) := (blk_cell BK101.out 8).trans rfl
                        have hcz22_9 : wc.cell? ⟨gb101, 9, none⟩ = some (.string a0_9) := (blk_cell BK101.out 9).trans rfl
                        have hcz22_10 : wc.cell? ⟨gb101, 10, none⟩ = some (.string a0_10) := (blk_cell BK101.out 10).trans rfl
                        have hcz22_11 : wc.cell? ⟨gb101, 11, none⟩ = some (.string a0_11) := (blk_cell BK101.out 11).trans rfl
                        have hcz22_12 : wc.cell? ⟨gb101, 12, none⟩ = some (.string a0_12) := (blk_cell BK101.out 12).trans rfl
                        have hcz22_13 : wc.cell? ⟨gb101, 13, none⟩ = some (.slice A0_13 l0_13.length c0_13) := (blk_cell BK101.out 13).trans rfl
                        have hcz22_14 : wc.cell? ⟨gb101, 14, none⟩ = some (.int .i64 a0_14) := (blk_cell BK101.out 14).trans rfl
                        have hcz22_15 : wc.cell? ⟨gb101, 15, none⟩ = some (.bool a0_15) := (blk_cell BK101.out 15).trans rfl
                        have hcz22_16 : wc.cell? ⟨gb101, 16, none⟩ = some (.bool a0_16) := (blk_cell BK101.out 16).trans rfl
                        have hcz22_17 : wc.cell? ⟨gb101, 17, none⟩ = some (.string a0_17) := (blk_cell BK101.out 17).trans rfl
                        have hcz22_18 : wc.cell? ⟨gb101, 18, none⟩ = some (.string a0_18) := (blk_cell BK101.out 18).trans rfl
                        have hfz22_0 := blk_frozen BK101.out 0
                        have hfz22_1 := blk_frozen BK101.out 1
                        have hfz22_2 := blk_frozen BK101.out 2
                        have hfz22_3 := blk_frozen BK101.out 3
                        have hfz22_4 := blk_frozen BK101.out 4
                        have hfz22_5 := blk_frozen BK101.out 5
                        have hfz22_6 := blk_frozen BK101.out 6
                        have hfz22_7 := blk_frozen BK101.out 7
                        have hfz22_8 := blk_frozen BK101.out 8
                        have hfz22_9 := blk_frozen BK101.out 9
                        have hfz22_10 := blk_frozen BK101.out 10
                        have hfz22_11 := blk_frozen BK101.out 11
                        have hfz22_12 := blk_frozen BK101.out 12
                        have hfz22_13 := blk_frozen BK101.out 13
                        have hfz22_14 := blk_frozen BK101.out 14
                        have hfz22_15 := blk_frozen BK101.out 15
                        have hfz22_16 := blk_frozen BK101.out 16
                        have hfz22_17 := blk_frozen BK101.out 17
                        have hfz22_18 := blk_frozen BK101.out 18
                        go_wp2
                        go_ret
                        exact ⟨by first | rfl | (simp only [wrap_wrap]; done) | (simp only [wrap_wrap]; rfl) | (simp [errW_none, errW_some] <;> rfl) | (simp [*, errW_none, errW_some] <;> rfl), by repeat (first | (with_reducible first | exact HB.out | apply below_alloc | apply pw_below_drewN | apply below_drew1 | refine below_set ?_ GE101.out) | exact HB.out)⟩
                    · rw [if_neg c19] at H
                      have c19b0 : (t102 == 0) = false := beq_eq_false_iff_ne.mpr c19
                      have c19b1 : (t102 != 0) = true := bne_iff_ne.mpr c19
                      obtain rfl := Option.some.inj H
                      go_wp2
                      go_ret
                      exact ⟨by first | rfl | (simp only [wrap_wrap]; done) | (simp only [wrap_wrap]; rfl) | (simp [errW_none, errW_some] <;> rfl) | (simp [*, errW_none, errW_some] <;> rfl), by repeat (first | (with_reducible first | exact HB.out | apply below_alloc | apply pw_below_drewN | apply below_drew1 | refine below_set ?_ GE101.out) | exact HB.out)⟩

end Go.Proofs.Ytdlbmajilmmapaa.F
