-- Made by a program of this session (wip/tools/pr.py over the kit's printer). Not trusted: Lean checks it.
import Derived.Test.YtdlbmajilmmapaaFx
import Derived.Test.YtdlbmajilmmapaaF18
import Derived.Test.YtdlbmajilmmapaaF20
import Derived.Test.YtdlbmajilmmapaaE30
namespace Go.Proofs.Ytdlbmajilmmapaa.F
open Go.RowKit Go.Proofs.YtdlbmajilmmapaaW.PrintWords Go.Proofs.YtdlbmajilmmapaaW.PrintLast Go.Proofs.YtdlbmajilmmapaaW.PrintMore
attribute [local go_sem] max2_int min2_int max_two min_two max_three min_three max_four min_four
set_option linter.unusedVariables false
set_option linter.unusedSimpArgs false

attribute [local go_sem high] eqA30
/-! ### runnellaw19_CheckBlocks: function 4 -/
mutual
def runnellaw19_CheckBlocks.l0 : Nat → Int → Int → List (S27) → Int → Int → Option (Bool)
  | 0, _, _, _, _, _ => none
  | k + 1, x1, x5, x6, x17, x18 => if x18 < x17 then (if x6.length < 651562446089 then (runnellaw19_CheckBlocks.l0 k x1 x5 (x6 ++ [(⟨wrap64 (10 + x18), (⟨0, 0, (⟨#[]⟩ : ByteArray)⟩ : S24), (⟨0, 0, (⟨#[]⟩ : ByteArray)⟩ : S24), false, 123, (⟨#[]⟩ : ByteArray), (⟨#[]⟩ : ByteArray), (⟨#[]⟩ : ByteArray), (⟨#[]⟩ : ByteArray), ([] : List (S117)), 0, false, false, (⟨#[]⟩ : ByteArray), (⟨#[]⟩ : ByteArray)⟩ : S27)]) x17 (wrap64 (x18 + 1))) else (none)) else (runnellaw19_CheckBlocks.l1 k x1 x5 x6 x5 0)
def runnellaw19_CheckBlocks.l1 : Nat → Int → Int → List (S27) → Int → Int → Option (Bool)
  | 0, _, _, _, _, _ => none
  | k + 1, x1, x5, x6, x28, x29 => if x29 < x28 then (if x6.length < 651562446089 then (runnellaw19_CheckBlocks.l1 k x1 x5 (x6 ++ [(⟨wrap64 (100 + x29), (⟨0, 0, (⟨#[]⟩ : ByteArray)⟩ : S24), (⟨0, 0, (⟨#[]⟩ : ByteArray)⟩ : S24), false, 125, (⟨#[]⟩ : ByteArray), (⟨#[]⟩ : ByteArray), (⟨#[]⟩ : ByteArray), (⟨#[]⟩ : ByteArray), ([] : List (S117)), 0, false, false, (⟨#[]⟩ : ByteArray), (⟨#[]⟩ : ByteArray)⟩ : S27)]) x28 (wrap64 (x29 + 1))) else (none)) else (if x5 > 16 then ((check_Check.f x6).bind fun bt183 => (some (bt183.1 == 13 && (bt183.2 == 26)))) else (runnellaw19_CheckBlocks.l2 k x6 (wrap64 (Int.tmod x1 30)) 0))
def runnellaw19_CheckBlocks.l2 : Nat → List (S27) → Int → Int → Option (Bool)
  | 0, _, _, _ => none
  | k + 1, x6, x47, x48 => if x48 < x47 then ((some (([(⟨wrap64 (1000 + x48), (⟨0, 0, (⟨#[]⟩ : ByteArray)⟩ : S24), (⟨0, 0, (⟨#[]⟩ : ByteArray)⟩ : S24), false, 123, (⟨#[]⟩ : ByteArray), (⟨#[]⟩ : ByteArray), (⟨#[]⟩ : ByteArray), (⟨#[]⟩ : ByteArray), ([] : List (S117)), 0, false, false, (⟨#[]⟩ : ByteArray), (⟨#[]⟩ : ByteArray)⟩ : S27), (⟨wrap64 (2000 + x48), (⟨0, 0, (⟨#[]⟩ : ByteArray)⟩ : S24), (⟨0, 0, (⟨#[]⟩ : ByteArray)⟩ : S24), false, 125, (⟨#[]⟩ : ByteArray), (⟨#[]⟩ : ByteArray), (⟨#[]⟩ : ByteArray), (⟨#[]⟩ : ByteArray), ([] : List (S117)), 0, false, false, (⟨#[]⟩ : ByteArray), (⟨#[]⟩ : ByteArray)⟩ : S27)] : List (S27)) : List (S27))).bind fun y185 => (if x6.length + y185.length < 651562446089 then (runnellaw19_CheckBlocks.l2 k (x6 ++ y185) x47 (wrap64 (x48 + 1))) else (none))) else ((check_Check.f x6).bind fun bt191 => (if (!(bt191.1 == 0) || (!(bt191.2 == 0))) = true then (some false) else (if ([] : List (S27)).length + x6.length < 651562446089 then ((some (([] : List (S27)) ++ x6 : List (S27))).bind fun y193 => (if y193.length < 651562446089 then ((some (([] : List (S27)) ++ x6 : List (S27))).bind fun y199 => (if y199.length < 651562446089 then ((check_Check.f (y193 ++ [(⟨7, (⟨0, 0, (⟨#[]⟩ : ByteArray)⟩ : S24), (⟨0, 0, (⟨#[]⟩ : ByteArray)⟩ : S24), false, 123, (⟨#[]⟩ : ByteArray), (⟨#[]⟩ : ByteArray), (⟨#[]⟩ : ByteArray), (⟨#[]⟩ : ByteArray), ([] : List (S117)), 0, false, false, (⟨#[]⟩ : ByteArray), (⟨#[]⟩ : ByteArray)⟩ : S27)])).bind fun bt205 => (if (bt205.1 == 23 && (bt205.2 == 7)) = true then ((check_Check.f (y199 ++ [(⟨8, (⟨0, 0, (⟨#[]⟩ : ByteArray)⟩ : S24), (⟨0, 0, (⟨#[]⟩ : ByteArray)⟩ : S24), false, 125, (⟨#[]⟩ : ByteArray), (⟨#[]⟩ : ByteArray), (⟨#[]⟩ : ByteArray), (⟨#[]⟩ : ByteArray), ([] : List (S117)), 0, false, false, (⟨#[]⟩ : ByteArray), (⟨#[]⟩ : ByteArray)⟩ : S27)])).bind fun bt207 => (some (bt207.1 == 23 && (bt207.2 == 8)))) else (some false))) else (none))) else (none))) else (none))))
end
def runnellaw19_CheckBlocks.f (k : Nat) (a0 : Int) (a1 : Int) : Option (Bool) := (runnellaw19_awake.f).bind fun t176 => (if t176 = true then (runnellaw19_CheckBlocks.l0 k a1 (wrap64 (Int.tmod a0 20)) ([] : List (S27)) (wrap64 (Int.tmod a0 20)) 0) else (some false))
theorem runnellaw19_CheckBlocks.mono_l : ∀ k, (∀ y0 y1 y2 y3 y4, LeO (runnellaw19_CheckBlocks.l0 k y0 y1 y2 y3 y4) (runnellaw19_CheckBlocks.l0 (k + 1) y0 y1 y2 y3 y4)) ∧ (∀ y0 y1 y2 y3 y4, LeO (runnellaw19_CheckBlocks.l1 k y0 y1 y2 y3 y4) (runnellaw19_CheckBlocks.l1 (k + 1) y0 y1 y2 y3 y4)) ∧ (∀ y0 y1 y2, LeO (runnellaw19_CheckBlocks.l2 k y0 y1 y2) (runnellaw19_CheckBlocks.l2 (k + 1) y0 y1 y2))
  | 0 => ⟨fun _ _ _ _ _ r h => by simp [runnellaw19_CheckBlocks.l0] at h, fun _ _ _ _ _ r h => by simp [runnellaw19_CheckBlocks.l1] at h, fun _ _ _ r h => by simp [runnellaw19_CheckBlocks.l2] at h⟩
  | k + 1 => by
    obtain ⟨ih0, ih1, ih2⟩ := runnellaw19_CheckBlocks.mono_l k
    refine ⟨?_, ?_, ?_⟩
    · intro y0 y1 y2 y3 y4
      unfold runnellaw19_CheckBlocks.l0
      repeat' first
      | (with_reducible exact ih0 _ _ _ _ _)
      | (with_reducible exact ih1 _ _ _ _ _)
      | (with_reducible exact ih2 _ _ _)
      | (with_reducible exact LeO.refl _)
      | (with_reducible exact LeO.none _)
      | (with_reducible refine LeO.ite ?_ ?_)
      | (with_reducible refine LeO.bind ?_ (fun _ => ?_))
      | exact ih0 _ _ _ _ _
      | exact ih1 _ _ _ _ _
      | exact ih2 _ _ _
      | exact LeO.none _
      | refine LeO.ite ?_ ?_
      | refine LeO.bind ?_ (fun _ => ?_)
    · intro y0 y1 y2 y3 y4
      unfold runnellaw19_CheckBlocks.l1
      repeat' first
      | (with_reducible exact ih0 _ _ _ _ _)
      | (with_reducible exact ih1 _ _ _ _ _)
      | (with_reducible exact ih2 _ _ _)
      | (with_reducible exact LeO.refl _)
      | (with_reducible exact LeO.none _)
      | (with_reducible refine LeO.ite ?_ ?_)
      | (with_reducible refine LeO.bind ?_ (fun _ => ?_))
      | exact ih0 _ _ _ _ _
      | exact ih1 _ _ _ _ _
      | exact ih2 _ _ _
      | exact LeO.none _
      | refine LeO.ite ?_ ?_
      | refine LeO.bind ?_ (fun _ => ?_)
    · intro y0 y1 y2
      unfold runnellaw19_CheckBlocks.l2
      repeat' first
      | (with_reducible exact ih0 _ _ _ _ _)
      | (with_reducible exact ih1 _ _ _ _ _)
      | (with_reducible exact ih2 _ _ _)
      | (with_reducible exact LeO.refl _)
      | (with_reducible exact LeO.none _)
      | (with_reducible refine LeO.ite ?_ ?_)
      | (with_reducible refine LeO.bind ?_ (fun _ => ?_))
      | exact ih0 _ _ _ _ _
      | exact ih1 _ _ _ _ _
      | exact ih2 _ _ _
      | exact LeO.none _
      | refine LeO.ite ?_ ?_
      | refine LeO.bind ?_ (fun _ => ?_)
theorem runnellaw19_CheckBlocks.mono : ∀ a0 a1 k, LeO (runnellaw19_CheckBlocks.f k a0 a1) (runnellaw19_CheckBlocks.f (k + 1) a0 a1) := by
  intro a0 a1 k
  obtain ⟨ih0, ih1, ih2⟩ := runnellaw19_CheckBlocks.mono_l k
  unfold runnellaw19_CheckBlocks.f
  repeat' first
      | (with_reducible exact ih0 _ _ _ _ _)
      | (with_reducible exact ih1 _ _ _ _ _)
      | (with_reducible exact ih2 _ _ _)
      | (with_reducible exact LeO.refl _)
      | (with_reducible exact LeO.none _)
      | (with_reducible refine LeO.ite ?_ ?_)
      | (with_reducible refine LeO.bind ?_ (fun _ => ?_))
      | exact ih0 _ _ _ _ _
      | exact ih1 _ _ _ _ _
      | exact ih2 _ _ _
      | exact LeO.none _
      | refine LeO.ite ?_ ?_
      | refine LeO.bind ?_ (fun _ => ?_)
set_option maxHeartbeats 8000000 in
set_option maxRecDepth 100000 in
theorem runnellaw19_CheckBlocks.calls (k : Nat) (a0 : Int) (a1 : Int) (r : Bool) (w : World) (h : runnellaw19_CheckBlocks.f k a0 a1 = some r) :
    Calls Try.prog 4 #[.int .u8 a0, .int .u8 a1] w fun e w' => e = .returned (.bool r) ∧ Below w.heap.size w w' := by
  have hu27 := Try.underlying27
  have hu30 := Try.underlying30
  have HB := Aside0.mk (Below.refl w.heap.size w)
  have H : ((runnellaw19_awake.f).bind fun t176 => (if t176 = true then (runnellaw19_CheckBlocks.l0 k a1 (wrap64 (Int.tmod a0 20)) ([] : List (S27)) (wrap64 (Int.tmod a0 20)) 0) else (some false))) = some r := h
  clear h
  replace H := Option.bind_eq_some_iff.mp H
  obtain ⟨t176, A30, H⟩ := H
  replace H : (if t176 = true then (runnellaw19_CheckBlocks.l0 k a1 (wrap64 (Int.tmod a0 20)) ([] : List (S27)) (wrap64 (Int.tmod a0 20)) 0) else (some false)) = some r := H
  have A3 := Aside0.mk A30
  clear A30
  by_cases c4 : t176 = true
  · subst c4
    have H1 : (runnellaw19_CheckBlocks.l0 k a1 (wrap64 (Int.tmod a0 20)) ([] : List (S27)) (wrap64 (Int.tmod a0 20)) 0) = some r := by rw [if_pos rfl] at H; exact H
    clear H
    have H := H1
    clear H1
    have H' := Aside0.mk H
    clear H
    go_enter Try.func4, Try.ntmps4
    go_wp2_with (first | ((with_reducible refine gate_callee (f := 20) rfl ?_); refine goesL_ (some 12) rfl rfl Try.func20 (by kernel_rfl) rfl #[] rfl (by (try simp only [List.map_toArray, List.map_cons, List.map_nil]); first | done | rfl | (simp only [List.length_drop, List.length_take]; rfl)) ?_; (with_reducible refine (runnellaw19_awake.calls  true _ A3.out).mono ?_); rintro e w5 ⟨rfl, hb⟩; refine ⟨_, rfl, ?_⟩; have n0_ := Aside0.mk (below_step (by repeat (first | (with_reducible first | exact HB.out | apply below_alloc | apply pw_below_drewN | apply below_drew1) | exact HB.out)) hb); clear HB; have HB := n0_; clear n0_; (try clear hb); (try clear hb2); (try clear hk); (try clear hi)))
    go_loopg [6, 18] k (fun kq v6 v18 w' => ∃ (x6_1 : List (S27)) (x18_1 : Int), v18 = .int .i64 x18_1 ∧ Aside0 (runnellaw19_CheckBlocks.l0 kq a1 (wrap64 (Int.tmod a0 20)) x6_1 (wrap64 (Int.tmod a0 20)) x18_1 = some r) ∧ Aside0 (kq ≤ k) ∧ Aside0 (Kd.N k27 27 w' w.heap.size (fun _ => True) v6 x6_1) ∧ Aside0 (Below w.heap.size w w'))
    case atStart => exact ⟨(([] : List (S27))), (0), (by first | rfl | (simp; done) | (simp [*]; done)), H', ⟨Nat.le_refl _⟩, ⟨by first | exact Kd.S_nil _ _ _ _ _ | exact Kd.N_nil _ _ _ _ _ | exact Kd.V_nil _ _ _ _ _ | exact Kd.Q_nil _ _ _ _ _ | exact Kd.R_nil _ _ _ _ _⟩, ⟨by repeat (first | (with_reducible first | exact HB.out | apply below_alloc | apply pw_below_drewN | apply below_drew1) | exact HB.out)⟩⟩
    case round =>
      clear H'
      try clear c2
      try clear p2
      try clear c4
      obtain ⟨x6_1, x18_1, rfl, HA, HK1, HO_6, HB⟩ := hrel
      cases gk with
      | zero => exact absurd HA.out (by simp [runnellaw19_CheckBlocks.l0])
      | succ k1 =>
        have H := HA.out
        clear HA
        simp only [runnellaw19_CheckBlocks.l0] at H
        by_cases c6 : x18_1 < (wrap64 (Int.tmod a0 20))
        · rw [if_pos c6] at H
          have c6b0 : decide (x18_1 < (wrap64 (Int.tmod a0 20))) = true := decide_eq_true c6
          clear c6
          by_cases c7 : x6_1.length < 651562446089
          · rw [if_pos c7] at H
            have LMc7 := Aside0.mk c7
            clear c7
            obtain ⟨y177, hy177⟩ : ∃ y_ : List (S27), y_ = (x6_1 ++ [(⟨wrap64 (10 + x18_1), (⟨0, 0, (⟨#[]⟩ : ByteArray)⟩ : S24), (⟨0, 0, (⟨#[]⟩ : ByteArray)⟩ : S24), false, 123, (⟨#[]⟩ : ByteArray), (⟨#[]⟩ : ByteArray), (⟨#[]⟩ : ByteArray), (⟨#[]⟩ : ByteArray), ([] : List (S117)), 0, false, false, (⟨#[]⟩ : ByteArray), (⟨#[]⟩ : ByteArray)⟩ : S27)]) := ⟨_, rfl⟩
            replace H : (runnellaw19_CheckBlocks.l0 k1 a1 (wrap64 (Int.tmod a0 20)) y177 (wrap64 (Int.tmod a0 20)) (wrap64 (x18_1 + 1))) = some r := by first | (rw [hy177]; with_reducible exact H) | (have H2_ := (Option.bind_some _ _).symm.trans H; rw [hy177]; with_reducible exact H2_) | (have H2_ := (Option.bind_some _ _).symm.trans H; with_reducible exact H2_) | with_reducible exact H | (rw [hy177]; exact H) | exact H
            have Ny177 := Aside0.mk hy177
            clear hy177
            have H' := Aside0.mk H
            clear H
            go_wp2_with (first | ((with_reducible refine gate_builtin (b := .append) (xs := #[.tmp 21, .tmp 25]) rfl ?_); at_builtin; refine Kd.N_append k27 (w0 := w) w.heap.size rfl (.tmp 21) (.tmp 25) 22 27 (.agg #[(.int .i64 0), (.int .i64 0), (.int .i64 0), (.string ⟨#[]⟩), (.int .i64 0), (.int .i64 0), (.string ⟨#[]⟩), (.bool false), (.int .u8 0), (.string ⟨#[]⟩), (.string ⟨#[]⟩), (.string ⟨#[]⟩), (.string ⟨#[]⟩), (.slice none 0 0), (.int .i64 0), (.bool false), (.bool false), (.string ⟨#[]⟩), (.string ⟨#[]⟩)]) 216 rfl Try.underlying22 info27 rfl (by decide) (by omega) u6 x6_1 (⟨wrap64 (10 + x18_1), (⟨0, 0, (⟨#[]⟩ : ByteArray)⟩ : S24), (⟨0, 0, (⟨#[]⟩ : ByteArray)⟩ : S24), false, 123, (⟨#[]⟩ : ByteArray), (⟨#[]⟩ : ByteArray), (⟨#[]⟩ : ByteArray), (⟨#[]⟩ : ByteArray), ([] : List (S117)), 0, false, false, (⟨#[]⟩ : ByteArray), (⟨#[]⟩ : ByteArray)⟩ : S27) [.int .i64 (wrap64 (10 + x18_1)), .int .i64 0, .int .i64 0, .string (⟨#[]⟩ : ByteArray), .int .i64 0, .int .i64 0, .string (⟨#[]⟩ : ByteArray), .bool false, .int .u8 123, .string (⟨#[]⟩ : ByteArray), .string (⟨#[]⟩ : ByteArray), .string (⟨#[]⟩ : ByteArray), .string (⟨#[]⟩ : ByteArray), .slice none 0 0, .int .i64 0, .bool false, .bool false, .string (⟨#[]⟩ : ByteArray), .string (⟨#[]⟩ : ByteArray)] (fun _ => True) (fun k_ => ((fun _ => True)) k_ ∧ some k_ ≠ (u6 : Value).ownBlock) rfl rfl ?aP (fun _ hk => hk) ?aF ?aO ?aB ?aS ?aL ?_; (case aP => exact (k27_mkF _ _ (⟨wrap64 (10 + x18_1), (⟨0, 0, (⟨#[]⟩ : ByteArray)⟩ : S24), (⟨0, 0, (⟨#[]⟩ : ByteArray)⟩ : S24), false, 123, (⟨#[]⟩ : ByteArray), (⟨#[]⟩ : ByteArray), (⟨#[]⟩ : ByteArray), (⟨#[]⟩ : ByteArray), ([] : List (S117)), 0, false, false, (⟨#[]⟩ : ByteArray), (⟨#[]⟩ : ByteArray)⟩ : S27) (Nat.le_refl _) (Kd.F_nil _ _ _))); (case aB => exact (by repeat (first | (with_reducible first | exact HB.out | apply below_alloc | apply pw_below_drewN | apply below_drew1) | exact HB.out))); (case aF => exact (fun _ _ => trivial)); (case aO => exact (by (with_reducible repeat (first | apply Kd.N_alloc | apply Kd.N_drewN | apply Kd.N_drew)); exact HO_6.out)); (case aS => exact (below_size (by repeat (first | (with_reducible first | exact HB.out | apply below_alloc | apply pw_below_drewN | apply below_drew1) | exact HB.out)))); (case aL => have := LMc7.out; omega); intro v178 w8 ho hb hg hat; rw [← Ny177.out] at ho; have n0_ := Aside0.mk (hb); have n1_ := Aside0.mk (ho); clear HB; clear HO_6; have HB := n0_; have HO179 := n1_; clear n0_ n1_; clear ho hb hg hat))
            go_roundg k1
            case measure => have := HK1.out; omega
            case rel => exact ⟨(y177), (wrap64 (x18_1 + 1)), (by first | rfl | (simp; done) | (simp [*]; done)), H', ⟨by have := HK1.out; omega⟩, ⟨by (with_reducible repeat (first | apply Kd.N_alloc | apply Kd.N_drewN | apply Kd.N_drew)); exact HO179.out⟩, ⟨by repeat (first | (with_reducible first | exact HB.out | apply below_alloc | apply pw_below_drewN | apply below_drew1) | exact HB.out)⟩⟩
          · rw [if_neg c7] at H
            exact absurd H (by simp)
        · rw [if_neg c6] at H
          have c6b0 : decide (x18_1 < (wrap64 (Int.tmod a0 20))) = false := decide_eq_false c6
          clear c6
          have H' := Aside0.mk H
          clear H
          go_wp2
          go_loopg [6, 29] k1 (fun kq v6 v29 w' => ∃ (x6_2 : List (S27)) (x29_2 : Int), v29 = .int .i64 x29_2 ∧ Aside0 (runnellaw19_CheckBlocks.l1 kq a1 (wrap64 (Int.tmod a0 20)) x6_2 (wrap64 (Int.tmod a0 20)) x29_2 = some r) ∧ Aside0 (kq ≤ k1) ∧ Aside0 (Kd.N k27 27 w' w.heap.size (fun _ => True) v6 x6_2) ∧ Aside0 (Below w.heap.size w w'))
          case atStart => exact ⟨(x6_1), (0), (by first | rfl | (simp; done) | (simp [*]; done)), H', ⟨Nat.le_refl _⟩, ⟨by (with_reducible repeat (first | apply Kd.N_alloc | apply Kd.N_drewN | apply Kd.N_drew)); exact HO_6.out⟩, ⟨by repeat (first | (with_reducible first | exact HB.out | apply below_alloc | apply pw_below_drewN | apply below_drew1) | exact HB.out)⟩⟩
          case round =>
            clear H'
            try clear c2
            try clear p2
            try clear c4
            try clear c6
            try clear c6b0
            try clear p6
            try clear c7
            try clear p2
            obtain ⟨x6_2, x29_2, rfl, HA, HK2, HO_6, HB⟩ := hrel
            cases gk with
            | zero => exact absurd HA.out (by simp [runnellaw19_CheckBlocks.l1])
            | succ k2 =>
              have H := HA.out
              clear HA
              simp only [runnellaw19_CheckBlocks.l1] at H
              by_cases c9 : x29_2 < (wrap64 (Int.tmod a0 20))
              · rw [if_pos c9] at H
                have c9b0 : decide (x29_2 < (wrap64 (Int.tmod a0 20))) = true := decide_eq_true c9
                clear c9
                by_cases c10 : x6_2.length < 651562446089
                · rw [if_pos c10] at H
                  have LMc10 := Aside0.mk c10
                  clear c10
                  obtain ⟨y180, hy180⟩ : ∃ y_ : List (S27), y_ = (x6_2 ++ [(⟨wrap64 (100 + x29_2), (⟨0, 0, (⟨#[]⟩ : ByteArray)⟩ : S24), (⟨0, 0, (⟨#[]⟩ : ByteArray)⟩ : S24), false, 125, (⟨#[]⟩ : ByteArray), (⟨#[]⟩ : ByteArray), (⟨#[]⟩ : ByteArray), (⟨#[]⟩ : ByteArray), ([] : List (S117)), 0, false, false, (⟨#[]⟩ : ByteArray), (⟨#[]⟩ : ByteArray)⟩ : S27)]) := ⟨_, rfl⟩
                  replace H : (runnellaw19_CheckBlocks.l1 k2 a1 (wrap64 (Int.tmod a0 20)) y180 (wrap64 (Int.tmod a0 20)) (wrap64 (x29_2 + 1))) = some r := by first | (rw [hy180]; with_reducible exact H) | (have H2_ := (Option.bind_some _ _).symm.trans H; rw [hy180]; with_reducible exact H2_) | (have H2_ := (Option.bind_some _ _).symm.trans H; with_reducible exact H2_) | with_reducible exact H | (rw [hy180]; exact H) | exact H
                  have Ny180 := Aside0.mk hy180
                  clear hy180
                  have H' := Aside0.mk H
                  clear H
                  go_wp2_with (first | ((with_reducible refine gate_builtin (b := .append) (xs := #[.tmp 32, .tmp 36]) rfl ?_); at_builtin; refine Kd.N_append k27 (w0 := w) w.heap.size rfl (.tmp 32) (.tmp 36) 22 27 (.agg #[(.int .i64 0), (.int .i64 0), (.int .i64 0), (.string ⟨#[]⟩), (.int .i64 0), (.int .i64 0), (.string ⟨#[]⟩), (.bool false), (.int .u8 0), (.string ⟨#[]⟩), (.string ⟨#[]⟩), (.string ⟨#[]⟩), (.string ⟨#[]⟩), (.slice none 0 0), (.int .i64 0), (.bool false), (.bool false), (.string ⟨#[]⟩), (.string ⟨#[]⟩)]) 216 rfl Try.underlying22 info27 rfl (by decide) (by omega) u6 x6_2 (⟨wrap64 (100 + x29_2), (⟨0, 0, (⟨#[]⟩ : ByteArray)⟩ : S24), (⟨0, 0, (⟨#[]⟩ : ByteArray)⟩ : S24), false, 125, (⟨#[]⟩ : ByteArray), (⟨#[]⟩ : ByteArray), (⟨#[]⟩ : ByteArray), (⟨#[]⟩ : ByteArray), ([] : List (S117)), 0, false, false, (⟨#[]⟩ : ByteArray), (⟨#[]⟩ : ByteArray)⟩ : S27) [.int .i64 (wrap64 (100 + x29_2)), .int .i64 0, .int .i64 0, .string (⟨#[]⟩ : ByteArray), .int .i64 0, .int .i64 0, .string (⟨#[]⟩ : ByteArray), .bool false, .int .u8 125, .string (⟨#[]⟩ : ByteArray), .string (⟨#[]⟩ : ByteArray), .string (⟨#[]⟩ : ByteArray), .string (⟨#[]⟩ : ByteArray), .slice none 0 0, .int .i64 0, .bool false, .bool false, .string (⟨#[]⟩ : ByteArray), .string (⟨#[]⟩ : ByteArray)] (fun _ => True) (fun k_ => ((fun _ => True)) k_ ∧ some k_ ≠ (u6 : Value).ownBlock) rfl rfl ?aP (fun _ hk => hk) ?aF ?aO ?aB ?aS ?aL ?_; (case aP => exact (k27_mkF _ _ (⟨wrap64 (100 + x29_2), (⟨0, 0, (⟨#[]⟩ : ByteArray)⟩ : S24), (⟨0, 0, (⟨#[]⟩ : ByteArray)⟩ : S24), false, 125, (⟨#[]⟩ : ByteArray), (⟨#[]⟩ : ByteArray), (⟨#[]⟩ : ByteArray), (⟨#[]⟩ : ByteArray), ([] : List (S117)), 0, false, false, (⟨#[]⟩ : ByteArray), (⟨#[]⟩ : ByteArray)⟩ : S27) (Nat.le_refl _) (Kd.F_nil _ _ _))); (case aB => exact (by repeat (first | (with_reducible first | exact HB.out | apply below_alloc | apply pw_below_drewN | apply below_drew1) | exact HB.out))); (case aF => exact (fun _ _ => trivial)); (case aO => exact (by (with_reducible repeat (first | apply Kd.N_alloc | apply Kd.N_drewN | apply Kd.N_drew)); exact HO_6.out)); (case aS => exact (below_size (by repeat (first | (with_reducible first | exact HB.out | apply below_alloc | apply pw_below_drewN | apply below_drew1) | exact HB.out)))); (case aL => have := LMc10.out; omega); intro v181 w11 ho hb hg hat; rw [← Ny180.out] at ho; have n0_ := Aside0.mk (hb); have n1_ := Aside0.mk (ho); clear HB; clear HO_6; have HB := n0_; have HO182 := n1_; clear n0_ n1_; clear ho hb hg hat))
                  go_roundg k2
                  case measure => have := HK1.out; have := HK2.out; omega
                  case rel => exact ⟨(y180), (wrap64 (x29_2 + 1)), (by first | rfl | (simp; done) | (simp [*]; done)), H', ⟨by have := HK1.out; have := HK2.out; omega⟩, ⟨by (with_reducible repeat (first | apply Kd.N_alloc | apply Kd.N_drewN | apply Kd.N_drew)); exact HO182.out⟩, ⟨by repeat (first | (with_reducible first | exact HB.out | apply below_alloc | apply pw_below_drewN | apply below_drew1) | exact HB.out)⟩⟩
                · rw [if_neg c10] at H
                  exact absurd H (by simp)
              · rw [if_neg c9] at H
                have c9b0 : decide (x29_2 < (wrap64 (Int.tmod a0 20))) = false := decide_eq_false c9
                clear c9
                by_cases c12 : (wrap64 (Int.tmod a0 20)) > 16
                · rw [if_pos c12] at H
                  have c12b0 : decide (16 < (wrap64 (Int.tmod a0 20))) = true := decide_eq_true c12
                  clear c12
                  replace H := Option.bind_eq_some_iff.mp H
                  obtain ⟨⟨t183, t184⟩, A130, H⟩ := H
                  replace H : (some (t183 == 13 && (t184 == 26))) = some r := H
                  have A13 := Aside0.mk A130
                  clear A130
                  obtain rfl := Option.some.inj H
                  obtain ⟨Ao14, co14, eo14⟩ := Kd.N_slice HO_6.out
                  subst eo14
                  go_wp2_with (first | ((with_reducible refine gate_callee (f := 18) rfl ?_); refine goesL_ (some 42) rfl rfl Try.func18 (by kernel_rfl) rfl #[.slice Ao14 x6_2.length co14] rfl (by (try simp only [List.map_toArray, List.map_cons, List.map_nil]); first | done | rfl | (simp only [List.length_drop, List.length_take]; rfl)) ?_; (with_reducible refine (check_Check.calls _ _ x6_2 t183 t184 _ ?side1 ?side2 A13.out).mono ?_); (case side1 => repeat (first | exact (Kd.N_reads' HO_6.out).2.2 | (with_reducible refine Kd.C_alloc ?_ _) | (with_reducible refine Kd.C_drewN ?_ _) | (with_reducible refine Kd.C_drew ?_))); (case side2 => exact (Kd.N_reads' HO_6.out).2.1); rintro e w15 ⟨rfl, hb⟩; refine ⟨_, rfl, ?_⟩; have n0_ := Aside0.mk (Kd.N_below (by (with_reducible repeat (first | apply Kd.N_alloc | apply Kd.N_drewN | apply Kd.N_drew)); exact HO_6.out) hb); have n1_ := Aside0.mk (below_step (by repeat (first | (with_reducible first | exact HB.out | apply below_alloc | apply pw_below_drewN | apply below_drew1) | exact HB.out)) hb); clear HO_6; clear HB; have HO_6 := n0_; have HB := n1_; clear n0_ n1_; (try clear hb); (try clear hb2); (try clear hk); (try clear hi)))
                  go_ret
                  exact ⟨by first | rfl | (simp only [wrap_wrap]; done) | (simp only [wrap_wrap]; rfl) | (simp [errW_none, errW_some] <;> rfl) | (simp [*, errW_none, errW_some] <;> rfl), by repeat (first | (with_reducible first | exact HB.out | apply below_alloc | apply pw_below_drewN | apply below_drew1) | exact HB.out)⟩
                · rw [if_neg c12] at H
                  have c12b0 : decide (16 < (wrap64 (Int.tmod a0 20))) = false := decide_eq_false c12
                  clear c12
                  have H' := Aside0.mk H
                  clear H
                  go_wp2
                  go_loopg [6, 48] k2 (fun kq v6 v48 w' => ∃ (x6_3 : List (S27)) (x48_3 : Int), v48 = .int .i64 x48_3 ∧ Aside0 (runnellaw19_CheckBlocks.l2 kq x6_3 (wrap64 (Int.tmod a1 30)) x48_3 = some r) ∧ Aside0 (kq ≤ k2) ∧ Aside0 (Kd.N k27 27 w' w.heap.size (fun _ => True) v6 x6_3) ∧ Aside0 (Below w.heap.size w w'))
                  case atStart => exact ⟨(x6_2), (0), (by first | rfl | (simp; done) | (simp [*]; done)), H', ⟨Nat.le_refl _⟩, ⟨by (with_reducible repeat (first | apply Kd.N_alloc | apply Kd.N_drewN | apply Kd.N_drew)); exact HO_6.out⟩, ⟨by repeat (first | (with_reducible first | exact HB.out | apply below_alloc | apply pw_below_drewN | apply below_drew1) | exact HB.out)⟩⟩
                  case round =>
                    clear H'
                    try clear c1
                    try clear c2
                    try clear p2
                    try clear c4
                    try clear c6
                    try clear c6b0
                    try clear p6
                    try clear c7
                    try clear c9
                    try clear c9b0
                    try clear c10
                    try clear c12
                    try clear c12b0
                    try clear p2
                    try clear p6
                    obtain ⟨x6_3, x48_3, rfl, HA, HK3, HO_6, HB⟩ := hrel
                    cases gk with
                    | zero => exact absurd HA.out (by simp [runnellaw19_CheckBlocks.l2])
                    | succ k3 =>
                      have H := HA.out
                      clear HA
                      simp only [runnellaw19_CheckBlocks.l2] at H
                      by_cases c16 : x48_3 < (wrap64 (Int.tmod a1 30))
                      · rw [if_pos c16] at H
                        have c16b0 : decide (x48_3 < (wrap64 (Int.tmod a1 30))) = true := decide_eq_true c16
                        clear c16
                        obtain ⟨y185, hy185⟩ : ∃ y_ : List (S27), y_ = (([(⟨wrap64 (1000 + x48_3), (⟨0, 0, (⟨#[]⟩ : ByteArray)⟩ : S24), (⟨0, 0, (⟨#[]⟩ : ByteArray)⟩ : S24), false, 123, (⟨#[]⟩ : ByteArray), (⟨#[]⟩ : ByteArray), (⟨#[]⟩ : ByteArray), (⟨#[]⟩ : ByteArray), ([] : List (S117)), 0, false, false, (⟨#[]⟩ : ByteArray), (⟨#[]⟩ : ByteArray)⟩ : S27), (⟨wrap64 (2000 + x48_3), (⟨0, 0, (⟨#[]⟩ : ByteArray)⟩ : S24), (⟨0, 0, (⟨#[]⟩ : ByteArray)⟩ : S24), false, 125, (⟨#[]⟩ : ByteArray), (⟨#[]⟩ : ByteArray), (⟨#[]⟩ : ByteArray), (⟨#[]⟩ : ByteArray), ([] : List (S117)), 0, false, false, (⟨#[]⟩ : ByteArray), (⟨#[]⟩ : ByteArray)⟩ : S27)] : List (S27))) := ⟨_, rfl⟩
                        replace H : (if x6_3.length + y185.length < 651562446089 then (runnellaw19_CheckBlocks.l2 k3 (x6_3 ++ y185) (wrap64 (Int.tmod a1 30)) (wrap64 (x48_3 + 1))) else (none)) = some r := by first | (rw [hy185]; with_reducible exact H) | (have H2_ := (Option.bind_some _ _).symm.trans H; rw [hy185]; with_reducible exact H2_) | (have H2_ := (Option.bind_some _ _).symm.trans H; with_reducible exact H2_) | with_reducible exact H | (rw [hy185]; exact H) | exact H
                        have Ny185 := Aside0.mk hy185
                        clear hy185
                        by_cases c17 : x6_3.length + y185.length < 651562446089
                        · rw [if_pos c17] at H
                          have LMc17 := Aside0.mk c17
                          clear c17
                          obtain ⟨y188, hy188⟩ : ∃ y_ : List (S27), y_ = (x6_3 ++ y185) := ⟨_, rfl⟩
                          replace H : (runnellaw19_CheckBlocks.l2 k3 y188 (wrap64 (Int.tmod a1 30)) (wrap64 (x48_3 + 1))) = some r := by first | (rw [hy188]; with_reducible exact H) | (have H2_ := (Option.bind_some _ _).symm.trans H; rw [hy188]; with_reducible exact H2_) | (have H2_ := (Option.bind_some _ _).symm.trans H; with_reducible exact H2_) | with_reducible exact H | (rw [hy188]; exact H) | exact H
                          have Ny188 := Aside0.mk hy188
                          clear hy188
                          have H' := Aside0.mk H
                          clear H
                          go_wp2_with (first | ((with_reducible refine gate_dst (N := 58) rfl ?_); refine Kd.N_lit k27 _ 27 ?hg (N' := 58) ?hd (xs := ([(⟨wrap64 (1000 + x48_3), (⟨0, 0, (⟨#[]⟩ : ByteArray)⟩ : S24), (⟨0, 0, (⟨#[]⟩ : ByteArray)⟩ : S24), false, 123, (⟨#[]⟩ : ByteArray), (⟨#[]⟩ : ByteArray), (⟨#[]⟩ : ByteArray), (⟨#[]⟩ : ByteArray), ([] : List (S117)), 0, false, false, (⟨#[]⟩ : ByteArray), (⟨#[]⟩ : ByteArray)⟩ : S27), (⟨wrap64 (2000 + x48_3), (⟨0, 0, (⟨#[]⟩ : ByteArray)⟩ : S24), (⟨0, 0, (⟨#[]⟩ : ByteArray)⟩ : S24), false, 125, (⟨#[]⟩ : ByteArray), (⟨#[]⟩ : ByteArray), (⟨#[]⟩ : ByteArray), (⟨#[]⟩ : ByteArray), ([] : List (S117)), 0, false, false, (⟨#[]⟩ : ByteArray), (⟨#[]⟩ : ByteArray)⟩ : S27)] : List (S27))) (inner := [.int .i64 (wrap64 (1000 + x48_3)), .int .i64 0, .int .i64 0, .string (⟨#[]⟩ : ByteArray), .int .i64 0, .int .i64 0, .string (⟨#[]⟩ : ByteArray), .bool false, .int .u8 123, .string (⟨#[]⟩ : ByteArray), .string (⟨#[]⟩ : ByteArray), .string (⟨#[]⟩ : ByteArray), .string (⟨#[]⟩ : ByteArray), .slice none 0 0, .int .i64 0, .bool false, .bool false, .string (⟨#[]⟩ : ByteArray), .string (⟨#[]⟩ : ByteArray), .int .i64 (wrap64 (2000 + x48_3)), .int .i64 0, .int .i64 0, .string (⟨#[]⟩ : ByteArray), .int .i64 0, .int .i64 0, .string (⟨#[]⟩ : ByteArray), .bool false, .int .u8 125, .string (⟨#[]⟩ : ByteArray), .string (⟨#[]⟩ : ByteArray), .string (⟨#[]⟩ : ByteArray), .string (⟨#[]⟩ : ByteArray), .slice none 0 0, .int .i64 0, .bool false, .bool false, .string (⟨#[]⟩ : ByteArray), .string (⟨#[]⟩ : ByteArray)]) (ok := (fun k_ => some k_ ≠ (u6 : Value).ownBlock)) (okp := (fun k_ => some k_ ≠ (u6 : Value).ownBlock)) ?hr ?hp (fun _ hk => hk) ((show ∀ k_, wr.heap.size ≤ k_ → (fun k_ => some k_ ≠ (u6 : Value).ownBlock) k_ from fun k_ hk => Kd.fresh' (Kd.N_lt (by (with_reducible repeat (first | apply Kd.N_alloc | apply Kd.N_drewN | apply Kd.N_drew)); exact HO_6.out)) k_ hk) _ (Nat.le_refl _)) (Below.refl _ _) (Nat.le_refl _) (by simp) ?_; (case hd => rfl); (case hg => rfl); (case hr => first | (go_simp; done) | (go_simp; rfl)); (case hp => exact (Reps.front (show Kd.FK k27 _ _ (⟨wrap64 (1000 + x48_3), (⟨0, 0, (⟨#[]⟩ : ByteArray)⟩ : S24), (⟨0, 0, (⟨#[]⟩ : ByteArray)⟩ : S24), false, 123, (⟨#[]⟩ : ByteArray), (⟨#[]⟩ : ByteArray), (⟨#[]⟩ : ByteArray), (⟨#[]⟩ : ByteArray), ([] : List (S117)), 0, false, false, (⟨#[]⟩ : ByteArray), (⟨#[]⟩ : ByteArray)⟩ : S27) [.int .i64 (wrap64 (1000 + x48_3)), .int .i64 0, .int .i64 0, .string (⟨#[]⟩ : ByteArray), .int .i64 0, .int .i64 0, .string (⟨#[]⟩ : ByteArray), .bool false, .int .u8 123, .string (⟨#[]⟩ : ByteArray), .string (⟨#[]⟩ : ByteArray), .string (⟨#[]⟩ : ByteArray), .string (⟨#[]⟩ : ByteArray), .slice none 0 0, .int .i64 0, .bool false, .bool false, .string (⟨#[]⟩ : ByteArray), .string (⟨#[]⟩ : ByteArray)] from (k27_mkF _ _ (⟨wrap64 (1000 + x48_3), (⟨0, 0, (⟨#[]⟩ : ByteArray)⟩ : S24), (⟨0, 0, (⟨#[]⟩ : ByteArray)⟩ : S24), false, 123, (⟨#[]⟩ : ByteArray), (⟨#[]⟩ : ByteArray), (⟨#[]⟩ : ByteArray), (⟨#[]⟩ : ByteArray), ([] : List (S117)), 0, false, false, (⟨#[]⟩ : ByteArray), (⟨#[]⟩ : ByteArray)⟩ : S27) (Nat.le_refl _) (Kd.F_nil _ _ _))) rfl (Reps.front (show Kd.FK k27 _ _ (⟨wrap64 (2000 + x48_3), (⟨0, 0, (⟨#[]⟩ : ByteArray)⟩ : S24), (⟨0, 0, (⟨#[]⟩ : ByteArray)⟩ : S24), false, 125, (⟨#[]⟩ : ByteArray), (⟨#[]⟩ : ByteArray), (⟨#[]⟩ : ByteArray), (⟨#[]⟩ : ByteArray), ([] : List (S117)), 0, false, false, (⟨#[]⟩ : ByteArray), (⟨#[]⟩ : ByteArray)⟩ : S27) [.int .i64 (wrap64 (2000 + x48_3)), .int .i64 0, .int .i64 0, .string (⟨#[]⟩ : ByteArray), .int .i64 0, .int .i64 0, .string (⟨#[]⟩ : ByteArray), .bool false, .int .u8 125, .string (⟨#[]⟩ : ByteArray), .string (⟨#[]⟩ : ByteArray), .string (⟨#[]⟩ : ByteArray), .string (⟨#[]⟩ : ByteArray), .slice none 0 0, .int .i64 0, .bool false, .bool false, .string (⟨#[]⟩ : ByteArray), .string (⟨#[]⟩ : ByteArray)] from (k27_mkF _ _ (⟨wrap64 (2000 + x48_3), (⟨0, 0, (⟨#[]⟩ : ByteArray)⟩ : S24), (⟨0, 0, (⟨#[]⟩ : ByteArray)⟩ : S24), false, 125, (⟨#[]⟩ : ByteArray), (⟨#[]⟩ : ByteArray), (⟨#[]⟩ : ByteArray), (⟨#[]⟩ : ByteArray), ([] : List (S117)), 0, false, false, (⟨#[]⟩ : ByteArray), (⟨#[]⟩ : ByteArray)⟩ : S27) (Nat.le_refl _) (Kd.F_nil _ _ _))) rfl (Reps.none _ _) rfl) rfl)); intro v186 w18 ho19 hb hg_ hnew_; clear hg_ hnew_; (first | rw [← Ny185.out] at ho19 | (simp only [Int.reduceToNat] at ho19; rw [← Ny185.out] at ho19)); have n0_ := Aside0.mk (Kd.N_elder' (by (with_reducible repeat (first | apply Kd.N_alloc | apply Kd.N_drewN | apply Kd.N_drew)); exact HO_6.out) (Kd.N_base ho19) hb); have n1_ := Aside0.mk (Kd.N_lower ho19 (below_size (by repeat (first | (with_reducible first | exact HB.out | apply below_alloc | apply pw_below_drewN | apply below_drew1) | exact HB.out)))); have n2_ := Aside0.mk (below_step (by repeat (first | (with_reducible first | exact HB.out | apply below_alloc | apply pw_below_drewN | apply below_drew1) | exact HB.out)) hb); clear HO_6; clear HB; have HO_6 := n0_; have HO187 := n1_; have HB := n2_; clear n0_ n1_ n2_; clear hb ho19; obtain ⟨Ao21, co21, eo21⟩ := Kd.N_slice HO187.out; subst eo21) | ((with_reducible refine gate_builtin (b := .append) (xs := #[.tmp 51, .tmp 58]) rfl ?_); at_builtin; refine Kd.N_append_rows k27 (w0 := w) w.heap.size rfl (.tmp 51) (.tmp 58) 22 27 (.agg #[(.int .i64 0), (.int .i64 0), (.int .i64 0), (.string ⟨#[]⟩), (.int .i64 0), (.int .i64 0), (.string ⟨#[]⟩), (.bool false), (.int .u8 0), (.string ⟨#[]⟩), (.string ⟨#[]⟩), (.string ⟨#[]⟩), (.string ⟨#[]⟩), (.slice none 0 0), (.int .i64 0), (.bool false), (.bool false), (.string ⟨#[]⟩), (.string ⟨#[]⟩)]) 216 rfl Try.underlying22 info27 rfl (by decide) (by omega) u6 x6_3 y185 _ _ _ (fun _ => True) (fun k_ => ((fun _ => True)) k_ ∧ some k_ ≠ (u6 : Value).ownBlock) rfl rfl ?aO ?aR (fun _ hk => hk) ?aF ?aB ?aS ?aL ?_; (case aR => exact (by skip; exact Kd.N_F (Kd.N_mono (ok' := (fun k_ => ((fun _ => True)) k_ ∧ some k_ ≠ (u6 : Value).ownBlock)) (HO187.out) (fun k_ hk => ⟨trivial, hk⟩)))); (case aB => exact (by repeat (first | (with_reducible first | exact HB.out | apply below_alloc | apply pw_below_drewN | apply below_drew1) | exact HB.out))); (case aF => exact (fun _ _ => trivial)); (case aO => exact (by (with_reducible repeat (first | apply Kd.N_alloc | apply Kd.N_drewN | apply Kd.N_drew)); exact Kd.N_mono HO_6.out (fun _ hk => trivial))); (case aS => exact (below_size (by repeat (first | (with_reducible first | exact HB.out | apply below_alloc | apply pw_below_drewN | apply below_drew1) | exact HB.out)))); (case aL => have := LMc17.out; omega); intro v189 w20 ho hb hg hat; rw [← Ny188.out] at ho; have n0_ := Aside0.mk (Kd.N_afterv (ok := (fun _ => True)) (by (with_reducible repeat (first | apply Kd.N_alloc | apply Kd.N_drewN | apply Kd.N_drew)); exact Kd.N_mono HO187.out (fun _ hk => ⟨trivial, hk⟩)) hg hat); have n1_ := Aside0.mk (hb); have n2_ := Aside0.mk (ho); clear HO187; clear HB; clear HO_6; have HO187 := n0_; have HB := n1_; have HO190 := n2_; clear n0_ n1_ n2_; clear ho hb hg hat))
                          go_roundg k3
                          case measure => have := HK1.out; have := HK2.out; have := HK3.out; omega
                          case rel => exact ⟨(y188), (wrap64 (x48_3 + 1)), (by first | rfl | (simp; done) | (simp [*]; done)), H', ⟨by have := HK1.out; have := HK2.out; have := HK3.out; omega⟩, ⟨by (with_reducible repeat (first | apply Kd.N_alloc | apply Kd.N_drewN | apply Kd.N_drew)); exact HO190.out⟩, ⟨by repeat (first | (with_reducible first | exact HB.out | apply below_alloc | apply pw_below_drewN | apply below_drew1) | exact HB.out)⟩⟩
                        · rw [if_neg c17] at H
                          exact absurd H (by simp)
                      · rw [if_neg c16] at H
                        have c16b0 : decide (x48_3 < (wrap64 (Int.tmod a1 30))) = false := decide_eq_false c16
                        clear c16
                        replace H := Option.bind_eq_some_iff.mp H
                        obtain ⟨⟨t191, t192⟩, A220, H⟩ := H
                        replace H : (if (!(t191 == 0) || (!(t192 == 0))) = true then (some false) else (if ([] : List (S27)).length + x6_3.length < 651562446089 then ((some (([] : List (S27)) ++ x6_3 : List (S27))).bind fun y193 => (if y193.length < 651562446089 then ((some (([] : List (S27)) ++ x6_3 : List (S27))).bind fun y199 => (if y199.length < 651562446089 then ((check_Check.f (y193 ++ [(⟨7, (⟨0, 0, (⟨#[]⟩ : ByteArray)⟩ : S24), (⟨0, 0, (⟨#[]⟩ : ByteArray)⟩ : S24), false, 123, (⟨#[]⟩ : ByteArray), (⟨#[]⟩ : ByteArray), (⟨#[]⟩ : ByteArray), (⟨#[]⟩ : ByteArray), ([] : List (S117)), 0, false, false, (⟨#[]⟩ : ByteArray), (⟨#[]⟩ : ByteArray)⟩ : S27)])).bind fun bt205 => (if (bt205.1 == 23 && (bt205.2 == 7)) = true then ((check_Check.f (y199 ++ [(⟨8, (⟨0, 0, (⟨#[]⟩ : ByteArray)⟩ : S24), (⟨0, 0, (⟨#[]⟩ : ByteArray)⟩ : S24), false, 125, (⟨#[]⟩ : ByteArray), (⟨#[]⟩ : ByteArray), (⟨#[]⟩ : ByteArray), (⟨#[]⟩ : ByteArray), ([] : List (S117)), 0, false, false, (⟨#[]⟩ : ByteArray), (⟨#[]⟩ : ByteArray)⟩ : S27)])).bind fun bt207 => (some (bt207.1 == 23 && (bt207.2 == 8)))) else (some false))) else (none))) else (none))) else (none))) = some r := H
                        have A22 := Aside0.mk A220
                        clear A220
                        by_cases c23 : (!(t191 == 0) || (!(t192 == 0))) = true
                        · rw [if_pos c23] at H
                          have c23b0 : (!(t191 == 0) || (!(t192 == 0))) = true := c23
                          clear c23
                          obtain rfl := Option.some.inj H
                          obtain ⟨Ao24, co24, eo24⟩ := Kd.N_slice HO_6.out
                          subst eo24
                          go_wp2_with (first | ((with_reducible refine gate_callee (f := 18) rfl ?_); refine goesL_ (some 62) rfl rfl Try.func18 (by kernel_rfl) rfl #[.slice Ao24 x6_3.length co24] rfl (by (try simp only [List.map_toArray, List.map_cons, List.map_nil]); first | done | rfl | (simp only [List.length_drop, List.length_take]; rfl)) ?_; (with_reducible refine (check_Check.calls _ _ x6_3 t191 t192 _ ?side1 ?side2 A22.out).mono ?_); (case side1 => repeat (first | exact (Kd.N_reads' HO_6.out).2.2 | (with_reducible refine Kd.C_alloc ?_ _) | (with_reducible refine Kd.C_drewN ?_ _) | (with_reducible refine Kd.C_drew ?_))); (case side2 => exact (Kd.N_reads' HO_6.out).2.1); rintro e w25 ⟨rfl, hb⟩; refine ⟨_, rfl, ?_⟩; have n0_ := Aside0.mk (Kd.N_below (by (with_reducible repeat (first | apply Kd.N_alloc | apply Kd.N_drewN | apply Kd.N_drew)); exact HO_6.out) hb); have n1_ := Aside0.mk (below_step (by repeat (first | (with_reducible first | exact HB.out | apply below_alloc | apply pw_below_drewN | apply below_drew1) | exact HB.out)) hb); clear HO_6; clear HB; have HO_6 := n0_; have HB := n1_; clear n0_ n1_; (try clear hb); (try clear hb2); (try clear hk); (try clear hi)))
                          go_ret
                          exact ⟨by first | rfl | (simp only [wrap_wrap]; done) | (simp only [wrap_wrap]; rfl) | (simp [errW_none, errW_some] <;> rfl) | (simp [*, errW_none, errW_some] <;> rfl), by repeat (first | (with_reducible first | exact HB.out | apply below_alloc | apply pw_below_drewN | apply below_drew1) | exact HB.out)⟩
                        · rw [if_neg c23] at H
                          have c23b0 : (!(t191 == 0) || (!(t192 == 0))) = false := by simpa using c23
                          clear c23
                          by_cases c26 : ([] : List (S27)).length + x6_3.length < 651562446089
                          · rw [if_pos c26] at H
                            have LMc26 := Aside0.mk c26
                            clear c26
                            obtain ⟨y193, hy193⟩ : ∃ y_ : List (S27), y_ = (([] : List (S27)) ++ x6_3) := ⟨_, rfl⟩
                            replace H : (if y193.length < 651562446089 then ((some (([] : List (S27)) ++ x6_3 : List (S27))).bind fun y199 => (if y199.length < 651562446089 then ((check_Check.f (y193 ++ [(⟨7, (⟨0, 0, (⟨#[]⟩ : ByteArray)⟩ : S24), (⟨0, 0, (⟨#[]⟩ : ByteArray)⟩ : S24), false, 123, (⟨#[]⟩ : ByteArray), (⟨#[]⟩ : ByteArray), (⟨#[]⟩ : ByteArray), (⟨#[]⟩ : ByteArray), ([] : List (S117)), 0, false, false, (⟨#[]⟩ : ByteArray), (⟨#[]⟩ : ByteArray)⟩ : S27)])).bind fun bt205 => (if (bt205.1 == 23 && (bt205.2 == 7)) = true then ((check_Check.f (y199 ++ [(⟨8, (⟨0, 0, (⟨#[]⟩ : ByteArray)⟩ : S24), (⟨0, 0, (⟨#[]⟩ : ByteArray)⟩ : S24), false, 125, (⟨#[]⟩ : ByteArray), (⟨#[]⟩ : ByteArray), (⟨#[]⟩ : ByteArray), (⟨#[]⟩ : ByteArray), ([] : List (S117)), 0, false, false, (⟨#[]⟩ : ByteArray), (⟨#[]⟩ : ByteArray)⟩ : S27)])).bind fun bt207 => (some (bt207.1 == 23 && (bt207.2 == 8)))) else (some false))) else (none))) else (none)) = some r := by first | (rw [hy193]; with_reducible exact H) | (have H2_ := (Option.bind_some _ _).symm.trans H; rw [hy193]; with_reducible exact H2_) | (have H2_ := (Option.bind_some _ _).symm.trans H; with_reducible exact H2_) | with_reducible exact H | (rw [hy193]; exact H) | exact H
                            have Ny193 := Aside0.mk hy193
                            clear hy193
                            by_cases c27 : y193.length < 651562446089
                            · rw [if_pos c27] at H
                              have LMc27 := Aside0.mk c27
                              clear c27
                              obtain ⟨y196, hy196⟩ : ∃ y_ : List (S27), y_ = (y193 ++ [(⟨7, (⟨0, 0, (⟨#[]⟩ : ByteArray)⟩ : S24), (⟨0, 0, (⟨#[]⟩ : ByteArray)⟩ : S24), false, 123, (⟨#[]⟩ : ByteArray), (⟨#[]⟩ : ByteArray), (⟨#[]⟩ : ByteArray), (⟨#[]⟩ : ByteArray), ([] : List (S117)), 0, false, false, (⟨#[]⟩ : ByteArray), (⟨#[]⟩ : ByteArray)⟩ : S27)]) := ⟨_, rfl⟩
                              replace H : ((some (([] : List (S27)) ++ x6_3 : List (S27))).bind fun y199 => (if y199.length < 651562446089 then ((check_Check.f y196).bind fun bt205 => (if (bt205.1 == 23 && (bt205.2 == 7)) = true then ((check_Check.f (y199 ++ [(⟨8, (⟨0, 0, (⟨#[]⟩ : ByteArray)⟩ : S24), (⟨0, 0, (⟨#[]⟩ : ByteArray)⟩ : S24), false, 125, (⟨#[]⟩ : ByteArray), (⟨#[]⟩ : ByteArray), (⟨#[]⟩ : ByteArray), (⟨#[]⟩ : ByteArray), ([] : List (S117)), 0, false, false, (⟨#[]⟩ : ByteArray), (⟨#[]⟩ : ByteArray)⟩ : S27)])).bind fun bt207 => (some (bt207.1 == 23 && (bt207.2 == 8)))) else (some false))) else (none))) = some r := by first | (rw [hy196]; with_reducible exact H) | (have H2_ := (Option.bind_some _ _).symm.trans H; rw [hy196]; with_reducible exact H2_) | (have H2_ := (Option.bind_some _ _).symm.trans H; with_reducible exact H2_) | with_reducible exact H | (rw [hy196]; exact H) | exact H
                              have Ny196 := Aside0.mk hy196
                              clear hy196
                              obtain ⟨y199, hy199⟩ : ∃ y_ : List (S27), y_ = (([] : List (S27)) ++ x6_3) := ⟨_, rfl⟩
                              replace H : (if y199.length < 651562446089 then ((check_Check.f y196).bind fun bt205 => (if (bt205.1 == 23 && (bt205.2 == 7)) = true then ((check_Check.f (y199 ++ [(⟨8, (⟨0, 0, (⟨#[]⟩ : ByteArray)⟩ : S24), (⟨0, 0, (⟨#[]⟩ : ByteArray)⟩ : S24), false, 125, (⟨#[]⟩ : ByteArray), (⟨#[]⟩ : ByteArray), (⟨#[]⟩ : ByteArray), (⟨#[]⟩ : ByteArray), ([] : List (S117)), 0, false, false, (⟨#[]⟩ : ByteArray), (⟨#[]⟩ : ByteArray)⟩ : S27)])).bind fun bt207 => (some (bt207.1 == 23 && (bt207.2 == 8)))) else (some false))) else (none)) = some r := by first | (rw [hy199]; with_reducible exact H) | (have H2_ := (Option.bind_some _ _).symm.trans H; rw [hy199]; with_reducible exact H2_) | (have H2_ := (Option.bind_some _ _).symm.trans H; with_reducible exact H2_) | with_reducible exact H | (rw [hy199]; exact H) | exact H
                              have Ny199 := Aside0.mk hy199
                              clear hy199
                              by_cases c28 : y199.length < 651562446089
                              · rw [if_pos c28] at H
                                have LMc28 := Aside0.mk c28
                                clear c28
                                obtain ⟨y202, hy202⟩ : ∃ y_ : List (S27), y_ = (y199 ++ [(⟨8, (⟨0, 0, (⟨#[]⟩ : ByteArray)⟩ : S24), (⟨0, 0, (⟨#[]⟩ : ByteArray)⟩ : S24), false, 125, (⟨#[]⟩ : ByteArray), (⟨#[]⟩ : ByteArray), (⟨#[]⟩ : ByteArray), (⟨#[]⟩ : ByteArray), ([] : List (S117)), 0, false, false, (⟨#[]⟩ : ByteArray), (⟨#[]⟩ : ByteArray)⟩ : S27)]) := ⟨_, rfl⟩
                                replace H : ((check_Check.f y196).bind fun bt205 => (if (bt205.1 == 23 && (bt205.2 == 7)) = true then ((check_Check.f y202).bind fun bt207 => (some (bt207.1 == 23 && (bt207.2 == 8)))) else (some false))) = some r := by first | (rw [hy202]; with_reducible exact H) | (have H2_ := (Option.bind_some _ _).symm.trans H; rw [hy202]; with_reducible exact H2_) | (have H2_ := (Option.bind_some _ _).symm.trans H; with_reducible exact H2_) | with_reducible exact H | (rw [hy202]; exact H) | exact H
                                have Ny202 := Aside0.mk hy202
                                clear hy202
                                replace H := Option.bind_eq_some_iff.mp H
                                obtain ⟨⟨t205, t206⟩, A290, H⟩ := H
                                replace H : (if (t205 == 23 && (t206 == 7)) = true then ((check_Check.f y202).bind fun bt207 => (some (bt207.1 == 23 && (bt207.2 == 8)))) else (some false)) = some r := H
                                have A29 := Aside0.mk A290
                                clear A290
                                by_cases c30 : (t205 == 23 && (t206 == 7)) = true
                                · rw [if_pos c30] at H
                                  have c30b0 : (t205 == 23 && (t206 == 7)) = true := c30
                                  (try (have c30b1 : decide (t205 = 23 && (t206 == 7)) = true := by simpa using c30))
                                  (try (have c30b2 : (t205 == 23 && (t206 == 7)) = true := by simpa using c30))
                                  clear c30
                                  replace H := Option.bind_eq_some_iff.mp H
                                  obtain ⟨⟨t207, t208⟩, A310, H⟩ := H
                                  replace H : (some (t207 == 23 && (t208 == 8))) = some r := H
                                  have A31 := Aside0.mk A310
                                  clear A310
                                  obtain rfl := Option.some.inj H
                                  obtain ⟨Ao32, co32, eo32⟩ := Kd.N_slice HO_6.out
                                  subst eo32
                                  go_wp2_with (first | ((with_reducible refine gate_callee (f := 18) rfl ?_); refine goesL_ (some 62) rfl rfl Try.func18 (by kernel_rfl) rfl #[.slice Ao32 x6_3.length co32] rfl (by (try simp only [List.map_toArray, List.map_cons, List.map_nil]); first | done | rfl | (simp only [List.length_drop, List.length_take]; rfl)) ?_; (with_reducible refine (check_Check.calls _ _ x6_3 t191 t192 _ ?side1 ?side2 A22.out).mono ?_); (case side1 => repeat (first | exact (Kd.N_reads' HO_6.out).2.2 | (with_reducible refine Kd.C_alloc ?_ _) | (with_reducible refine Kd.C_drewN ?_ _) | (with_reducible refine Kd.C_drew ?_))); (case side2 => exact (Kd.N_reads' HO_6.out).2.1); rintro e w33 ⟨rfl, hb⟩; refine ⟨_, rfl, ?_⟩; have n0_ := Aside0.mk (Kd.N_below (by (with_reducible repeat (first | apply Kd.N_alloc | apply Kd.N_drewN | apply Kd.N_drew)); exact HO_6.out) hb); have n1_ := Aside0.mk (below_step (by repeat (first | (with_reducible first | exact HB.out | apply below_alloc | apply pw_below_drewN | apply below_drew1) | exact HB.out)) hb); clear HO_6; clear HB; have HO_6 := n0_; have HB := n1_; clear n0_ n1_; (try clear hb); (try clear hb2); (try clear hk); (try clear hi)) | ((with_reducible refine gate_builtin (b := .append) (xs := #[.tmp 65, .tmp 66]) rfl ?_); at_builtin; refine Kd.N_append_rows k27 (w0 := w) w.heap.size rfl (.tmp 65) (.tmp 66) 22 27 (.agg #[(.int .i64 0), (.int .i64 0), (.int .i64 0), (.string ⟨#[]⟩), (.int .i64 0), (.int .i64 0), (.string ⟨#[]⟩), (.bool false), (.int .u8 0), (.string ⟨#[]⟩), (.string ⟨#[]⟩), (.string ⟨#[]⟩), (.string ⟨#[]⟩), (.slice none 0 0), (.int .i64 0), (.bool false), (.bool false), (.string ⟨#[]⟩), (.string ⟨#[]⟩)]) 216 rfl Try.underlying22 info27 rfl (by decide) (by omega) (.slice none 0 0) ([] : List (S27)) x6_3 _ _ _ (fun _ => True) (fun k_ => ((fun _ => True)) k_ ∧ some k_ ≠ (.slice none 0 0 : Value).ownBlock) rfl rfl ?aO ?aR (fun _ hk => hk) ?aF ?aB ?aS ?aL ?_; (case aR => exact (by skip; exact Kd.N_F (Kd.N_mono (ok' := (fun k_ => ((fun _ => True)) k_ ∧ some k_ ≠ (.slice none 0 0 : Value).ownBlock)) (HO_6.out) (fun k_ hk => ⟨trivial, (by simp [Value.ownBlock])⟩)))); (case aB => exact (by repeat (first | (with_reducible first | exact HB.out | apply below_alloc | apply pw_below_drewN | apply below_drew1) | exact HB.out))); (case aF => exact (fun _ _ => trivial)); (case aO => exact ((Kd.N_nil _ _ _ _ (fun _ => True)))); (case aS => exact (below_size (by repeat (first | (with_reducible first | exact HB.out | apply below_alloc | apply pw_below_drewN | apply below_drew1) | exact HB.out)))); (case aL => have := LMc26.out; omega); intro v194 w34 ho hb hg hat; rw [← Ny193.out] at ho; have n0_ := Aside0.mk (Kd.N_afterv (Kd.N_apart_nil (by (with_reducible repeat (first | apply Kd.N_alloc | apply Kd.N_drewN | apply Kd.N_drew)); exact HO_6.out)) hg hat); have n1_ := Aside0.mk (hb); have n2_ := Aside0.mk (ho); clear HO_6; clear HB; have HO_6 := n0_; have HB := n1_; have HO195 := n2_; clear n0_ n1_ n2_; clear ho hb hg hat) | ((with_reducible refine gate_builtin (b := .append) (xs := #[.tmp 68, .tmp 70]) rfl ?_); at_builtin; refine Kd.N_append k27 (w0 := w) w.heap.size rfl (.tmp 68) (.tmp 70) 22 27 (.agg #[(.int .i64 0), (.int .i64 0), (.int .i64 0), (.string ⟨#[]⟩), (.int .i64 0), (.int .i64 0), (.string ⟨#[]⟩), (.bool false), (.int .u8 0), (.string ⟨#[]⟩), (.string ⟨#[]⟩), (.string ⟨#[]⟩), (.string ⟨#[]⟩), (.slice none 0 0), (.int .i64 0), (.bool false), (.bool false), (.string ⟨#[]⟩), (.string ⟨#[]⟩)]) 216 rfl Try.underlying22 info27 rfl (by decide) (by omega) v194 y193 (⟨7, (⟨0, 0, (⟨#[]⟩ : ByteArray)⟩ : S24), (⟨0, 0, (⟨#[]⟩ : ByteArray)⟩ : S24), false, 123, (⟨#[]⟩ : ByteArray), (⟨#[]⟩ : ByteArray), (⟨#[]⟩ : ByteArray), (⟨#[]⟩ : ByteArray), ([] : List (S117)), 0, false, false, (⟨#[]⟩ : ByteArray), (⟨#[]⟩ : ByteArray)⟩ : S27) [.int .i64 7, .int .i64 0, .int .i64 0, .string (⟨#[]⟩ : ByteArray), .int .i64 0, .int .i64 0, .string (⟨#[]⟩ : ByteArray), .bool false, .int .u8 123, .string (⟨#[]⟩ : ByteArray), .string (⟨#[]⟩ : ByteArray), .string (⟨#[]⟩ : ByteArray), .string (⟨#[]⟩ : ByteArray), .slice none 0 0, .int .i64 0, .bool false, .bool false, .string (⟨#[]⟩ : ByteArray), .string (⟨#[]⟩ : ByteArray)] (fun _ => True) (fun k_ => ((fun _ => True)) k_ ∧ some k_ ≠ (v194 : Value).ownBlock) rfl rfl ?aP (fun _ hk => hk) ?aF ?aO ?aB ?aS ?aL ?_; (case aP => exact (k27_mkF _ _ (⟨7, (⟨0, 0, (⟨#[]⟩ : ByteArray)⟩ : S24), (⟨0, 0, (⟨#[]⟩ : ByteArray)⟩ : S24), false, 123, (⟨#[]⟩ : ByteArray), (⟨#[]⟩ : ByteArray), (⟨#[]⟩ : ByteArray), (⟨#[]⟩ : ByteArray), ([] : List (S117)), 0, false, false, (⟨#[]⟩ : ByteArray), (⟨#[]⟩ : ByteArray)⟩ : S27) (Nat.le_refl _) (Kd.F_nil _ _ _))); (case aB => exact (by repeat (first | (with_reducible first | exact HB.out | apply below_alloc | apply pw_below_drewN | apply below_drew1) | exact HB.out))); (case aF => exact (fun _ _ => trivial)); (case aO => exact (by (with_reducible repeat (first | apply Kd.N_alloc | apply Kd.N_drewN | apply Kd.N_drew)); exact HO195.out)); (case aS => exact (below_size (by repeat (first | (with_reducible first | exact HB.out | apply below_alloc | apply pw_below_drewN | apply below_drew1) | exact HB.out)))); (case aL => have := LMc27.out; omega); intro v197 w35 ho hb hg hat; rw [← Ny196.out] at ho; have n0_ := Aside0.mk (Kd.N_afterv (ok := (fun _ => True)) (by (with_reducible repeat (first | apply Kd.N_alloc | apply Kd.N_drewN | apply Kd.N_drew)); exact HO_6.out) hg hat); have n1_ := Aside0.mk (hb); have n2_ := Aside0.mk (ho); clear HO_6; clear HB; clear HO195; have HO_6 := n0_; have HB := n1_; have HO198 := n2_; clear n0_ n1_ n2_; clear ho hb hg hat) | ((with_reducible refine gate_builtin (b := .append) (xs := #[.tmp 72, .tmp 73]) rfl ?_); at_builtin; refine Kd.N_append_rows k27 (w0 := w) w.heap.size rfl (.tmp 72) (.tmp 73) 22 27 (.agg #[(.int .i64 0), (.int .i64 0), (.int .i64 0), (.string ⟨#[]⟩), (.int .i64 0), (.int .i64 0), (.string ⟨#[]⟩), (.bool false), (.int .u8 0), (.string ⟨#[]⟩), (.string ⟨#[]⟩), (.string ⟨#[]⟩), (.string ⟨#[]⟩), (.slice none 0 0), (.int .i64 0), (.bool false), (.bool false), (.string ⟨#[]⟩), (.string ⟨#[]⟩)]) 216 rfl Try.underlying22 info27 rfl (by decide) (by omega) (.slice none 0 0) ([] : List (S27)) x6_3 _ _ _ (fun k_ => some k_ ≠ (v197 : Value).ownBlock) (fun k_ => ((fun k_ => some k_ ≠ (v197 : Value).ownBlock)) k_ ∧ some k_ ≠ (.slice none 0 0 : Value).ownBlock) rfl rfl ?aO ?aR (fun _ hk => hk) ?aF ?aB ?aS ?aL ?_; (case aR => exact (by skip; exact Kd.N_F (Kd.N_mono (ok' := (fun k_ => ((fun k_ => some k_ ≠ (v197 : Value).ownBlock)) k_ ∧ some k_ ≠ (.slice none 0 0 : Value).ownBlock)) (HO_6.out) (fun k_ hk => ⟨hk.2, (by simp [Value.ownBlock])⟩)))); (case aB => exact (by repeat (first | (with_reducible first | exact HB.out | apply below_alloc | apply pw_below_drewN | apply below_drew1) | exact HB.out))); (case aF => exact (fun k_ hk => Kd.fresh' (Kd.N_lt (by (with_reducible repeat (first | apply Kd.N_alloc | apply Kd.N_drewN | apply Kd.N_drew)); exact HO198.out)) k_ hk)); (case aO => exact ((Kd.N_nil _ _ _ _ (fun k_ => some k_ ≠ (v197 : Value).ownBlock)))); (case aS => exact (below_size (by repeat (first | (with_reducible first | exact HB.out | apply below_alloc | apply pw_below_drewN | apply below_drew1) | exact HB.out)))); (case aL => have := LMc26.out; omega); intro v200 w36 ho hb hg hat; rw [← Ny199.out] at ho; have n0_ := Aside0.mk (Kd.N_afterv (Kd.N_apart_nil (by (with_reducible repeat (first | apply Kd.N_alloc | apply Kd.N_drewN | apply Kd.N_drew)); exact HO_6.out)) hg hat); have n1_ := Aside0.mk (Kd.N_afterv (Kd.N_apart_nil (by (with_reducible repeat (first | apply Kd.N_alloc | apply Kd.N_drewN | apply Kd.N_drew)); exact HO198.out)) hg hat); have n2_ := Aside0.mk (hb); have n3_ := Aside0.mk (ho); clear HO_6; clear HO198; clear HB; have HO_6 := n0_; have HO198 := n1_; have HB := n2_; have HO201 := n3_; clear n0_ n1_ n2_ n3_; clear ho hb hg hat) | ((with_reducible refine gate_builtin (b := .append) (xs := #[.tmp 75, .tmp 77]) rfl ?_); at_builtin; refine Kd.N_append k27 (w0 := w) w.heap.size rfl (.tmp 75) (.tmp 77) 22 27 (.agg #[(.int .i64 0), (.int .i64 0), (.int .i64 0), (.string ⟨#[]⟩), (.int .i64 0), (.int .i64 0), (.string ⟨#[]⟩), (.bool false), (.int .u8 0), (.string ⟨#[]⟩), (.string ⟨#[]⟩), (.string ⟨#[]⟩), (.string ⟨#[]⟩), (.slice none 0 0), (.int .i64 0), (.bool false), (.bool false), (.string ⟨#[]⟩), (.string ⟨#[]⟩)]) 216 rfl Try.underlying22 info27 rfl (by decide) (by omega) v200 y199 (⟨8, (⟨0, 0, (⟨#[]⟩ : ByteArray)⟩ : S24), (⟨0, 0, (⟨#[]⟩ : ByteArray)⟩ : S24), false, 125, (⟨#[]⟩ : ByteArray), (⟨#[]⟩ : ByteArray), (⟨#[]⟩ : ByteArray), (⟨#[]⟩ : ByteArray), ([] : List (S117)), 0, false, false, (⟨#[]⟩ : ByteArray), (⟨#[]⟩ : ByteArray)⟩ : S27) [.int .i64 8, .int .i64 0, .int .i64 0, .string (⟨#[]⟩ : ByteArray), .int .i64 0, .int .i64 0, .string (⟨#[]⟩ : ByteArray), .bool false, .int .u8 125, .string (⟨#[]⟩ : ByteArray), .string (⟨#[]⟩ : ByteArray), .string (⟨#[]⟩ : ByteArray), .string (⟨#[]⟩ : ByteArray), .slice none 0 0, .int .i64 0, .bool false, .bool false, .string (⟨#[]⟩ : ByteArray), .string (⟨#[]⟩ : ByteArray)] (fun k_ => some k_ ≠ (v197 : Value).ownBlock) (fun k_ => ((fun k_ => some k_ ≠ (v197 : Value).ownBlock)) k_ ∧ some k_ ≠ (v200 : Value).ownBlock) rfl rfl ?aP (fun _ hk => hk) ?aF ?aO ?aB ?aS ?aL ?_; (case aP => exact (k27_mkF _ _ (⟨8, (⟨0, 0, (⟨#[]⟩ : ByteArray)⟩ : S24), (⟨0, 0, (⟨#[]⟩ : ByteArray)⟩ : S24), false, 125, (⟨#[]⟩ : ByteArray), (⟨#[]⟩ : ByteArray), (⟨#[]⟩ : ByteArray), (⟨#[]⟩ : ByteArray), ([] : List (S117)), 0, false, false, (⟨#[]⟩ : ByteArray), (⟨#[]⟩ : ByteArray)⟩ : S27) (Nat.le_refl _) (Kd.F_nil _ _ _))); (case aB => exact (by repeat (first | (with_reducible first | exact HB.out | apply below_alloc | apply pw_below_drewN | apply below_drew1) | exact HB.out))); (case aF => exact (fun k_ hk => Kd.fresh' (Kd.N_lt (by (with_reducible repeat (first | apply Kd.N_alloc | apply Kd.N_drewN | apply Kd.N_drew)); exact HO198.out)) k_ hk)); (case aO => exact (by (with_reducible repeat (first | apply Kd.N_alloc | apply Kd.N_drewN | apply Kd.N_drew)); exact HO201.out)); (case aS => exact (below_size (by repeat (first | (with_reducible first | exact HB.out | apply below_alloc | apply pw_below_drewN | apply below_drew1) | exact HB.out)))); (case aL => have := LMc28.out; omega); intro v203 w37 ho hb hg hat; rw [← Ny202.out] at ho; have n0_ := Aside0.mk (Kd.N_afterv (ok := (fun k_ => some k_ ≠ (v197 : Value).ownBlock)) (by (with_reducible repeat (first | apply Kd.N_alloc | apply Kd.N_drewN | apply Kd.N_drew)); exact Kd.N_mono HO_6.out (fun _ hk => ⟨hk.1.2, hk.2⟩)) hg hat); have n1_ := Aside0.mk (Kd.N_afterv (ok := (fun _ => True)) (by (with_reducible repeat (first | apply Kd.N_alloc | apply Kd.N_drewN | apply Kd.N_drew)); exact HO198.out) hg hat); have n2_ := Aside0.mk (hb); have n3_ := Aside0.mk (ho); clear HO_6; clear HO198; clear HB; clear HO201; have HO_6 := n0_; have HO198 := n1_; have HB := n2_; have HO204 := n3_; clear n0_ n1_ n2_ n3_; clear ho hb hg hat; obtain ⟨Ao38, co38, eo38⟩ := Kd.N_slice HO198.out; subst eo38) | ((with_reducible refine gate_callee (f := 18) rfl ?_); refine goesL_ (some 80) rfl rfl Try.func18 (by kernel_rfl) rfl #[.slice Ao38 y196.length co38] rfl (by (try simp only [List.map_toArray, List.map_cons, List.map_nil]); first | done | rfl | (simp only [List.length_drop, List.length_take]; rfl)) ?_; (with_reducible refine (check_Check.calls _ _ y196 t205 t206 _ ?side1 ?side2 A29.out).mono ?_); (case side1 => repeat (first | exact (Kd.N_reads' HO198.out).2.2 | (with_reducible refine Kd.C_alloc ?_ _) | (with_reducible refine Kd.C_drewN ?_ _) | (with_reducible refine Kd.C_drew ?_))); (case side2 => exact (Kd.N_reads' HO198.out).2.1); rintro e w39 ⟨rfl, hb⟩; refine ⟨_, rfl, ?_⟩; have n0_ := Aside0.mk (Kd.N_below (by (with_reducible repeat (first | apply Kd.N_alloc | apply Kd.N_drewN | apply Kd.N_drew)); exact HO_6.out) hb); have n1_ := Aside0.mk (Kd.N_below (by (with_reducible repeat (first | apply Kd.N_alloc | apply Kd.N_drewN | apply Kd.N_drew)); exact HO198.out) hb); have n2_ := Aside0.mk (Kd.N_below (by (with_reducible repeat (first | apply Kd.N_alloc | apply Kd.N_drewN | apply Kd.N_drew)); exact HO204.out) hb); have n3_ := Aside0.mk (below_step (by repeat (first | (with_reducible first | exact HB.out | apply below_alloc | apply pw_below_drewN | apply below_drew1) | exact HB.out)) hb); clear HO_6; clear HO198; clear HO204; clear HB; have HO_6 := n0_; have HO198 := n1_; have HO204 := n2_; have HB := n3_; clear n0_ n1_ n2_ n3_; (try clear hb); (try clear hb2); (try clear hk); (try clear hi); obtain ⟨Ao40, co40, eo40⟩ := Kd.N_slice HO204.out; subst eo40) | (go_at_call 18; (with_reducible refine (check_Check.calls _ _ y202 t207 t208 _ ?side1 ?side2 A31.out).mono ?_); (case side1 => repeat (first | exact (Kd.N_reads' HO204.out).2.2 | (with_reducible refine Kd.C_alloc ?_ _) | (with_reducible refine Kd.C_drewN ?_ _) | (with_reducible refine Kd.C_drew ?_))); (case side2 => exact (Kd.N_reads' HO204.out).2.1); rintro e w41 ⟨rfl, hb⟩; have n0_ := Aside0.mk (Kd.N_below (by (with_reducible repeat (first | apply Kd.N_alloc | apply Kd.N_drewN | apply Kd.N_drew)); exact HO_6.out) hb); have n1_ := Aside0.mk (Kd.N_below (by (with_reducible repeat (first | apply Kd.N_alloc | apply Kd.N_drewN | apply Kd.N_drew)); exact HO198.out) hb); have n2_ := Aside0.mk (Kd.N_below (by (with_reducible repeat (first | apply Kd.N_alloc | apply Kd.N_drewN | apply Kd.N_drew)); exact HO204.out) hb); have n3_ := Aside0.mk (below_step (by repeat (first | (with_reducible first | exact HB.out | apply below_alloc | apply pw_below_drewN | apply below_drew1) | exact HB.out)) hb); clear HO_6; clear HO198; clear HO204; clear HB; have HO_6 := n0_; have HO198 := n1_; have HO204 := n2_; have HB := n3_; clear n0_ n1_ n2_ n3_; (try clear hb); (try clear hb2); (try clear hk); (try clear hi)))
                                  go_ret
                                  exact ⟨by first | rfl | (simp only [wrap_wrap]; done) | (simp only [wrap_wrap]; rfl) | (simp [errW_none, errW_some] <;> rfl) | (simp [*, errW_none, errW_some] <;> rfl), by repeat (first | (with_reducible first | exact HB.out | apply below_alloc | apply pw_below_drewN | apply below_drew1) | exact HB.out)⟩
                                · rw [if_neg c30] at H
                                  have c30b0 : (t205 == 23 && (t206 == 7)) = false := by simpa using c30
                                  (try (have c30b1 : decide (t205 = 23 && (t206 == 7)) = false := by simpa using c30))
                                  (try (have c30b2 : (t205 == 23 && (t206 == 7)) = false := by simpa using c30))
                                  (try (have c30b3 : ¬ (t205 = 23 && (t206 == 7)) := by simpa using c30))
                                  clear c30
                                  obtain rfl := Option.some.inj H
                                  obtain ⟨Ao42, co42, eo42⟩ := Kd.N_slice HO_6.out
                                  subst eo42
                                  go_wp2_with (first | ((with_reducible refine gate_callee (f := 18) rfl ?_); refine goesL_ (some 62) rfl rfl Try.func18 (by kernel_rfl) rfl #[.slice Ao42 x6_3.length co42] rfl (by (try simp only [List.map_toArray, List.map_cons, List.map_nil]); first | done | rfl | (simp only [List.length_drop, List.length_take]; rfl)) ?_; (with_reducible refine (check_Check.calls _ _ x6_3 t191 t192 _ ?side1 ?side2 A22.out).mono ?_); (case side1 => repeat (first | exact (Kd.N_reads' HO_6.out).2.2 | (with_reducible refine Kd.C_alloc ?_ _) | (with_reducible refine Kd.C_drewN ?_ _) | (with_reducible refine Kd.C_drew ?_))); (case side2 => exact (Kd.N_reads' HO_6.out).2.1); rintro e w43 ⟨rfl, hb⟩; refine ⟨_, rfl, ?_⟩; have n0_ := Aside0.mk (Kd.N_below (by (with_reducible repeat (first | apply Kd.N_alloc | apply Kd.N_drewN | apply Kd.N_drew)); exact HO_6.out) hb); have n1_ := Aside0.mk (below_step (by repeat (first | (with_reducible first | exact HB.out | apply below_alloc | apply pw_below_drewN | apply below_drew1) | exact HB.out)) hb); clear HO_6; clear HB; have HO_6 := n0_; have HB := n1_; clear n0_ n1_; (try clear hb); (try clear hb2); (try clear hk); (try clear hi)) | ((with_reducible refine gate_builtin (b := .append) (xs := #[.tmp 65, .tmp 66]) rfl ?_); at_builtin; refine Kd.N_append_rows k27 (w0 := w) w.heap.size rfl (.tmp 65) (.tmp 66) 22 27 (.agg #[(.int .i64 0), (.int .i64 0), (.int .i64 0), (.string ⟨#[]⟩), (.int .i64 0), (.int .i64 0), (.string ⟨#[]⟩), (.bool false), (.int .u8 0), (.string ⟨#[]⟩), (.string ⟨#[]⟩), (.string ⟨#[]⟩), (.string ⟨#[]⟩), (.slice none 0 0), (.int .i64 0), (.bool false), (.bool false), (.string ⟨#[]⟩), (.string ⟨#[]⟩)]) 216 rfl Try.underlying22 info27 rfl (by decide) (by omega) (.slice none 0 0) ([] : List (S27)) x6_3 _ _ _ (fun _ => True) (fun k_ => ((fun _ => True)) k_ ∧ some k_ ≠ (.slice none 0 0 : Value).ownBlock) rfl rfl ?aO ?aR (fun _ hk => hk) ?aF ?aB ?aS ?aL ?_; (case aR => exact (by skip; exact Kd.N_F (Kd.N_mono (ok' := (fun k_ => ((fun _ => True)) k_ ∧ some k_ ≠ (.slice none 0 0 : Value).ownBlock)) (HO_6.out) (fun k_ hk => ⟨trivial, (by simp [Value.ownBlock])⟩)))); (case aB => exact (by repeat (first | (with_reducible first | exact HB.out | apply below_alloc | apply pw_below_drewN | apply below_drew1) | exact HB.out))); (case aF => exact (fun _ _ => trivial)); (case aO => exact ((Kd.N_nil _ _ _ _ (fun _ => True)))); (case aS => exact (below_size (by repeat (first | (with_reducible first | exact HB.out | apply below_alloc | apply pw_below_drewN | apply below_drew1) | exact HB.out)))); (case aL => have := LMc26.out; omega); intro v194 w44 ho hb hg hat; rw [← Ny193.out] at ho; have n0_ := Aside0.mk (Kd.N_afterv (Kd.N_apart_nil (by (with_reducible repeat (first | apply Kd.N_alloc | apply Kd.N_drewN | apply Kd.N_drew)); exact HO_6.out)) hg hat); have n1_ := Aside0.mk (hb); have n2_ := Aside0.mk (ho); clear HO_6; clear HB; have HO_6 := n0_; have HB := n1_; have HO195 := n2_; clear n0_ n1_ n2_; clear ho hb hg hat) | ((with_reducible refine gate_builtin (b := .append) (xs := #[.tmp 68, .tmp 70]) rfl ?_); at_builtin; refine Kd.N_append k27 (w0 := w) w.heap.size rfl (.tmp 68) (.tmp 70) 22 27 (.agg #[(.int .i64 0), (.int .i64 0), (.int .i64 0), (.string ⟨#[]⟩), (.int .i64 0), (.int .i64 0), (.string ⟨#[]⟩), (.bool false), (.int .u8 0), (.string ⟨#[]⟩), (.string ⟨#[]⟩), (.string ⟨#[]⟩), (.string ⟨#[]⟩), (.slice none 0 0), (.int .i64 0), (.bool false), (.bool false), (.string ⟨#[]⟩), (.string ⟨#[]⟩)]) 216 rfl Try.underlying22 info27 rfl (by decide) (by omega) v194 y193 (⟨7, (⟨0, 0, (⟨#[]⟩ : ByteArray)⟩ : S24), (⟨0, 0, (⟨#[]⟩ : ByteArray)⟩ : S24), false, 123, (⟨#[]⟩ : ByteArray), (⟨#[]⟩ : ByteArray), (⟨#[]⟩ : ByteArray), (⟨#[]⟩ : ByteArray), ([] : List (S117)), 0, false, false, (⟨#[]⟩ : ByteArray), (⟨#[]⟩ : ByteArray)⟩ : S27) [.int .i64 7, .int .i64 0, .int .i64 0, .string (⟨#[]⟩ : ByteArray), .int .i64 0, .int .i64 0, .string (⟨#[]⟩ : ByteArray), .bool false, .int .u8 123, .string (⟨#[]⟩ : ByteArray), .string (⟨#[]⟩ : ByteArray), .string (⟨#[]⟩ : ByteArray), .string (⟨#[]⟩ : ByteArray), .slice none 0 0, .int .i64 0, .bool false, .bool false, .string (⟨#[]⟩ : ByteArray), .string (⟨#[]⟩ : ByteArray)] (fun _ => True) (fun k_ => ((fun _ => True)) k_ ∧ some k_ ≠ (v194 : Value).ownBlock) rfl rfl ?aP (fun _ hk => hk) ?aF ?aO ?aB ?aS ?aL ?_; (case aP => exact (k27_mkF _ _ (⟨7, (⟨0, 0, (⟨#[]⟩ : ByteArray)⟩ : S24), (⟨0, 0, (⟨#[]⟩ : ByteArray)⟩ : S24), false, 123, (⟨#[]⟩ : ByteArray), (⟨#[]⟩ : ByteArray), (⟨#[]⟩ : ByteArray), (⟨#[]⟩ : ByteArray), ([] : List (S117)), 0, false, false, (⟨#[]⟩ : ByteArray), (⟨#[]⟩ : ByteArray)⟩ : S27) (Nat.le_refl _) (Kd.F_nil _ _ _))); (case aB => exact (by repeat (first | (with_reducible first | exact HB.out | apply below_alloc | apply pw_below_drewN | apply below_drew1) | exact HB.out))); (case aF => exact (fun _ _ => trivial)); (case aO => exact (by (with_reducible repeat (first | apply Kd.N_alloc | apply Kd.N_drewN | apply Kd.N_drew)); exact HO195.out)); (case aS => exact (below_size (by repeat (first | (with_reducible first | exact HB.out | apply below_alloc | apply pw_below_drewN | apply below_drew1) | exact HB.out)))); (case aL => have := LMc27.out; omega); intro v197 w45 ho hb hg hat; rw [← Ny196.out] at ho; have n0_ := Aside0.mk (Kd.N_afterv (ok := (fun _ => True)) (by (with_reducible repeat (first | apply Kd.N_alloc | apply Kd.N_drewN | apply Kd.N_drew)); exact HO_6.out) hg hat); have n1_ := Aside0.mk (hb); have n2_ := Aside0.mk (ho); clear HO_6; clear HB; clear HO195; have HO_6 := n0_; have HB := n1_; have HO198 := n2_; clear n0_ n1_ n2_; clear ho hb hg hat) | ((with_reducible refine gate_builtin (b := .append) (xs := #[.tmp 72, .tmp 73]) rfl ?_); at_builtin; refine Kd.N_append_rows k27 (w0 := w) w.heap.size rfl (.tmp 72) (.tmp 73) 22 27 (.agg #[(.int .i64 0), (.int .i64 0), (.int .i64 0), (.string ⟨#[]⟩), (.int .i64 0), (.int .i64 0), (.string ⟨#[]⟩), (.bool false), (.int .u8 0), (.string ⟨#[]⟩), (.string ⟨#[]⟩), (.string ⟨#[]⟩), (.string ⟨#[]⟩), (.slice none 0 0), (.int .i64 0), (.bool false), (.bool false), (.string ⟨#[]⟩), (.string ⟨#[]⟩)]) 216 rfl Try.underlying22 info27 rfl (by decide) (by omega) (.slice none 0 0) ([] : List (S27)) x6_3 _ _ _ (fun k_ => some k_ ≠ (v197 : Value).ownBlock) (fun k_ => ((fun k_ => some k_ ≠ (v197 : Value).ownBlock)) k_ ∧ some k_ ≠ (.slice none 0 0 : Value).ownBlock) rfl rfl ?aO ?aR (fun _ hk => hk) ?aF ?aB ?aS ?aL ?_; (case aR => exact (by skip; exact Kd.N_F (Kd.N_mono (ok' := (fun k_ => ((fun k_ => some k_ ≠ (v197 : Value).ownBlock)) k_ ∧ some k_ ≠ (.slice none 0 0 : Value).ownBlock)) (HO_6.out) (fun k_ hk => ⟨hk.2, (by simp [Value.ownBlock])⟩)))); (case aB => exact (by repeat (first | (with_reducible first | exact HB.out | apply below_alloc | apply pw_below_drewN | apply below_drew1) | exact HB.out))); (case aF => exact (fun k_ hk => Kd.fresh' (Kd.N_lt (by (with_reducible repeat (first | apply Kd.N_alloc | apply Kd.N_drewN | apply Kd.N_drew)); exact HO198.out)) k_ hk)); (case aO => exact ((Kd.N_nil _ _ _ _ (fun k_ => some k_ ≠ (v197 : Value).ownBlock)))); (case aS => exact (below_size (by repeat (first | (with_reducible first | exact HB.out | apply below_alloc | apply pw_below_drewN | apply below_drew1) | exact HB.out)))); (case aL => have := LMc26.out; omega); intro v200 w46 ho hb hg hat; rw [← Ny199.out] at ho; have n0_ := Aside0.mk (Kd.N_afterv (Kd.N_apart_nil (by (with_reducible repeat (first | apply Kd.N_alloc | apply Kd.N_drewN | apply Kd.N_drew)); exact HO_6.out)) hg hat); have n1_ := Aside0.mk (Kd.N_afterv (Kd.N_apart_nil (by (with_reducible repeat (first | apply Kd.N_alloc | apply Kd.N_drewN | apply Kd.N_drew)); exact HO198.out)) hg hat); have n2_ := Aside0.mk (hb); have n3_ := Aside0.mk (ho); clear HO_6; clear HO198; clear HB; have HO_6 := n0_; have HO198 := n1_; have HB := n2_; have HO201 := n3_; clear n0_ n1_ n2_ n3_; clear ho hb hg hat) | ((with_reducible refine gate_builtin (b := .append) (xs := #[.tmp 75, .tmp 77]) rfl ?_); at_builtin; refine Kd.N_append k27 (w0 := w) w.heap.size rfl (.tmp 75) (.tmp 77) 22 27 (.agg #[(.int .i64 0), (.int .i64 0), (.int .i64 0), (.string ⟨#[]⟩), (.int .i64 0), (.int .i64 0), (.string ⟨#[]⟩), (.bool false), (.int .u8 0), (.string ⟨#[]⟩), (.string ⟨#[]⟩), (.string ⟨#[]⟩), (.string ⟨#[]⟩), (.slice none 0 0), (.int .i64 0), (.bool false), (.bool false), (.string ⟨#[]⟩), (.string ⟨#[]⟩)]) 216 rfl Try.underlying22 info27 rfl (by decide) (by omega) v200 y199 (⟨8, (⟨0, 0, (⟨#[]⟩ : ByteArray)⟩ : S24), (⟨0, 0, (⟨#[]⟩ : ByteArray)⟩ : S24), false, 125, (⟨#[]⟩ : ByteArray), (⟨#[]⟩ : ByteArray), (⟨#[]⟩ : ByteArray), (⟨#[]⟩ : ByteArray), ([] : List (S117)), 0, false, false, (⟨#[]⟩ : ByteArray), (⟨#[]⟩ : ByteArray)⟩ : S27) [.int .i64 8, .int .i64 0, .int .i64 0, .string (⟨#[]⟩ : ByteArray), .int .i64 0, .int .i64 0, .string (⟨#[]⟩ : ByteArray), .bool false, .int .u8 125, .string (⟨#[]⟩ : ByteArray), .string (⟨#[]⟩ : ByteArray), .string (⟨#[]⟩ : ByteArray), .string (⟨#[]⟩ : ByteArray), .slice none 0 0, .int .i64 0, .bool false, .bool false, .string (⟨#[]⟩ : ByteArray), .string (⟨#[]⟩ : ByteArray)] (fun k_ => some k_ ≠ (v197 : Value).ownBlock) (fun k_ => ((fun k_ => some k_ ≠ (v197 : Value).ownBlock)) k_ ∧ some k_ ≠ (v200 : Value).ownBlock) rfl rfl ?aP (fun _ hk => hk) ?aF ?aO ?aB ?aS ?aL ?_; (case aP => exact (k27_mkF _ _ (⟨8, (⟨0, 0, (⟨#[]⟩ : ByteArray)⟩ : S24), (⟨0, 0, (⟨#[]⟩ : ByteArray)⟩ : S24), false, 125, (⟨#[]⟩ : ByteArray), (⟨#[]⟩ : ByteArray), (⟨#[]⟩ : ByteArray), (⟨#[]⟩ : ByteArray), ([] : List (S117)), 0, false, false, (⟨#[]⟩ : ByteArray), (⟨#[]⟩ : ByteArray)⟩ : S27) (Nat.le_refl _) (Kd.F_nil _ _ _))); (case aB => exact (by repeat (first | (with_reducible first | exact HB.out | apply below_alloc | apply pw_below_drewN | apply below_drew1) | exact HB.out))); (case aF => exact (fun k_ hk => Kd.fresh' (Kd.N_lt (by (with_reducible repeat (first | apply Kd.N_alloc | apply Kd.N_drewN | apply Kd.N_drew)); exact HO198.out)) k_ hk)); (case aO => exact (by (with_reducible repeat (first | apply Kd.N_alloc | apply Kd.N_drewN | apply Kd.N_drew)); exact HO201.out)); (case aS => exact (below_size (by repeat (first | (with_reducible first | exact HB.out | apply below_alloc | apply pw_below_drewN | apply below_drew1) | exact HB.out)))); (case aL => have := LMc28.out; omega); intro v203 w47 ho hb hg hat; rw [← Ny202.out] at ho; have n0_ := Aside0.mk (Kd.N_afterv (ok := (fun k_ => some k_ ≠ (v197 : Value).ownBlock)) (by (with_reducible repeat (first | apply Kd.N_alloc | apply Kd.N_drewN | apply Kd.N_drew)); exact Kd.N_mono HO_6.out (fun _ hk => ⟨hk.1.2, hk.2⟩)) hg hat); have n1_ := Aside0.mk (Kd.N_afterv (ok := (fun _ => True)) (by (with_reducible repeat (first | apply Kd.N_alloc | apply Kd.N_drewN | apply Kd.N_drew)); exact HO198.out) hg hat); have n2_ := Aside0.mk (hb); have n3_ := Aside0.mk (ho); clear HO_6; clear HO198; clear HB; clear HO201; have HO_6 := n0_; have HO198 := n1_; have HB := n2_; have HO204 := n3_; clear n0_ n1_ n2_ n3_; clear ho hb hg hat; obtain ⟨Ao48, co48, eo48⟩ := Kd.N_slice HO198.out; subst eo48) | ((with_reducible refine gate_callee (f := 18) rfl ?_); refine goesL_ (some 80) rfl rfl Try.func18 (by kernel_rfl) rfl #[.slice Ao48 y196.length co48] rfl (by (try simp only [List.map_toArray, List.map_cons, List.map_nil]); first | done | rfl | (simp only [List.length_drop, List.length_take]; rfl)) ?_; (with_reducible refine (check_Check.calls _ _ y196 t205 t206 _ ?side1 ?side2 A29.out).mono ?_); (case side1 => repeat (first | exact (Kd.N_reads' HO198.out).2.2 | (with_reducible refine Kd.C_alloc ?_ _) | (with_reducible refine Kd.C_drewN ?_ _) | (with_reducible refine Kd.C_drew ?_))); (case side2 => exact (Kd.N_reads' HO198.out).2.1); rintro e w49 ⟨rfl, hb⟩; refine ⟨_, rfl, ?_⟩; have n0_ := Aside0.mk (Kd.N_below (by (with_reducible repeat (first | apply Kd.N_alloc | apply Kd.N_drewN | apply Kd.N_drew)); exact HO_6.out) hb); have n1_ := Aside0.mk (Kd.N_below (by (with_reducible repeat (first | apply Kd.N_alloc | apply Kd.N_drewN | apply Kd.N_drew)); exact HO198.out) hb); have n2_ := Aside0.mk (Kd.N_below (by (with_reducible repeat (first | apply Kd.N_alloc | apply Kd.N_drewN | apply Kd.N_drew)); exact HO204.out) hb); have n3_ := Aside0.mk (below_step (by repeat (first | (with_reducible first | exact HB.out | apply below_alloc | apply pw_below_drewN | apply below_drew1) | exact HB.out)) hb); clear HO_6; clear HO198; clear HO204; clear HB; have HO_6 := n0_; have HO198 := n1_; have HO204 := n2_; have HB := n3_; clear n0_ n1_ n2_ n3_; (try clear hb); (try clear hb2); (try clear hk); (try clear hi)))
                                  go_ret
                                  exact ⟨by first | rfl | (simp only [wrap_wrap]; done) | (simp only [wrap_wrap]; rfl) | (simp [errW_none, errW_some] <;> rfl) | (simp [*, errW_none, errW_some] <;> rfl), by repeat (first | (with_reducible first | exact HB.out | apply below_alloc | apply pw_below_drewN | apply below_drew1) | exact HB.out)⟩
                              · rw [if_neg c28] at H
                                exact absurd H (by simp)
                            · rw [if_neg c27] at H
                              exact absurd H (by simp)
                          · rw [if_neg c26] at H
                            exact absurd H (by simp)
  · replace c4 := Bool.eq_false_iff.mpr c4
    subst c4
    have H1 : (some false) = some r := by rw [if_neg (show ¬ (false = true) by decide)] at H; exact H
    clear H
    have H := H1
    clear H1
    obtain rfl := Option.some.inj H
    go_enter Try.func4, Try.ntmps4
    go_wp2_with (first | ((with_reducible refine gate_callee (f := 20) rfl ?_); refine goesL_ (some 12) rfl rfl Try.func20 (by kernel_rfl) rfl #[] rfl (by (try simp only [List.map_toArray, List.map_cons, List.map_nil]); first | done | rfl | (simp only [List.length_drop, List.length_take]; rfl)) ?_; (with_reducible refine (runnellaw19_awake.calls  false _ A3.out).mono ?_); rintro e w50 ⟨rfl, hb⟩; refine ⟨_, rfl, ?_⟩; have n0_ := Aside0.mk (below_step (by repeat (first | (with_reducible first | exact HB.out | apply below_alloc | apply pw_below_drewN | apply below_drew1) | exact HB.out)) hb); clear HB; have HB := n0_; clear n0_; (try clear hb); (try clear hb2); (try clear hk); (try clear hi)))
    go_ret
    exact ⟨by first | rfl | (simp only [wrap_wrap]; done) | (simp only [wrap_wrap]; rfl) | (simp [errW_none, errW_some] <;> rfl) | (simp [*, errW_none, errW_some] <;> rfl), by repeat (first | (with_reducible first | exact HB.out | apply below_alloc | apply pw_below_drewN | apply below_drew1) | exact HB.out)⟩

/-- THE ONE PURE STATEMENT of runnellaw19_CheckBlocks: yours. -/
def runnellaw19_CheckBlocks.Pure : Prop := ∀ (a0 : Int) (a1 : Int), (Lit.int .u8 a0).wf = true → (Lit.int .u8 a1).wf = true → ∃ k, runnellaw19_CheckBlocks.f k a0 a1 = some true
theorem runnellaw19_CheckBlocks.walk (P : runnellaw19_CheckBlocks.Pure) (a0 : Int) (a1 : Int) (w : World) (w0 : (Lit.int .u8 a0).wf = true) (w1 : (Lit.int .u8 a1).wf = true) :
    Calls Try.prog 4 #[.int .u8 a0, .int .u8 a1] w fun e w' => e = .returned (.bool true) ∧ Below w.heap.size w w' := by
  obtain ⟨k, h⟩ := P a0 a1 w0 w1
  refine (runnellaw19_CheckBlocks.calls k a0 a1 true w h).mono ?_
  rintro e w' ⟨rfl, hd⟩
  exact ⟨rfl, hd⟩

end Go.Proofs.Ytdlbmajilmmapaa.F
