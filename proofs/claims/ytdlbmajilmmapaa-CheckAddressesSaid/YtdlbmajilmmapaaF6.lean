/- CheckAddresses: the call answers true. (A closed statement: no condition.) -/
import Derived.Test.YtdlbmajilmmapaaFx
import Derived.Test.YtdlbmajilmmapaaF18
import Derived.Test.YtdlbmajilmmapaaF20
import Derived.Test.YtdlbmajilmmapaaLoads2
import Derived.Deep.RegionLawGrows
import Derived.Great.BuildSlice
import Derived.Deep.DeepCutAuto
import Derived.Deep.CutBlock
namespace Go.Proofs.Ytdlbmajilmmapaa.F
open Go.RowKit Go.Proofs.YtdlbmajilmmapaaW.PrintWords Go.Proofs.YtdlbmajilmmapaaW.PrintLast Go.Proofs.YtdlbmajilmmapaaW.PrintMore
set_option linter.unusedVariables false
set_option linter.unusedSimpArgs false

/-! ### What the law reckons -/
def zA : S24 := ⟨0, 0, ⟨#[]⟩⟩
def aA : S24 := ⟨2, 0, ⟨#[]⟩⟩
def cmdC (A B : S24) (n : Bool) (x : Int) (s : ByteArray) : S27 := ⟨0, A, B, n, x, s, ⟨#[]⟩, ⟨#[]⟩, ⟨#[]⟩, [], 0, false, false, ⟨#[]⟩, ⟨#[]⟩⟩
def cc (A B : S24) (n : Bool) (x : Int) (s : ByteArray) : List Value := [.int .i64 0, .int .i64 A.f0, .int .i64 A.f1, .string A.f2, .int .i64 B.f0, .int .i64 B.f1, .string B.f2, .bool n, .int .u8 x, .string s, .string ⟨#[]⟩, .string ⟨#[]⟩, .string ⟨#[]⟩, .slice none 0 0, .int .i64 0, .bool false, .bool false, .string ⟨#[]⟩, .string ⟨#[]⟩]
def openB : S27 := cmdC zA zA false 123 ⟨#[]⟩
def cmdB (x : Int) : Nat → S27
  | 0 => cmdC aA aA false x ⟨#[120]⟩
  | 1 => cmdC aA zA false x ⟨#[120]⟩
  | 2 => cmdC zA aA false x ⟨#[120]⟩
  | _ => cmdC zA zA true x ⟨#[120]⟩
def ccB (x : Int) : Nat → List Value
  | 0 => cc aA aA false x ⟨#[120]⟩
  | 1 => cc aA zA false x ⟨#[120]⟩
  | 2 => cc zA aA false x ⟨#[120]⟩
  | _ => cc zA zA true x ⟨#[120]⟩
def mostB (x : Int) : Int :=
  if (x == 58) = true then 0 else if (x == 125) = true then 0
  else if (x == 97) = true then 1 else if (x == 105) = true then 1 else if (x == 114) = true then 1 else if (x == 113) = true then 1 else if (x == 61) = true then 1
  else if (x == 123) = true then 2 else if (x == 98) = true then 2 else if (x == 99) = true then 2 else if (x == 100) = true then 2 else if (x == 68) = true then 2
  else if (x == 103) = true then 2 else if (x == 71) = true then 2 else if (x == 104) = true then 2 else if (x == 72) = true then 2 else if (x == 108) = true then 2
  else if (x == 110) = true then 2 else if (x == 78) = true then 2 else if (x == 112) = true then 2 else if (x == 80) = true then 2 else if (x == 115) = true then 2
  else if (x == 116) = true then 2 else if (x == 119) = true then 2 else if (x == 120) = true then 2 else if (x == 121) = true then 2 else -1
def fitB (m : Int) : Nat → Bool
  | 0 => m == 2
  | 1 => decide (1 ≤ m)
  | 2 => false
  | _ => decide (1 ≤ m)
def okB (x : Int) (i : Nat) : Bool := match check_Check.f [openB, cmdB x i] with
  | none => false
  | some (e, _) => !((e == 17 || e == 18) == fitB (mostB x) i) && !((e == 18) != decide (mostB x < 0))
set_option maxRecDepth 100000 in
theorem ok_all : ((List.range 256).all fun b => (List.range 4).all fun i => okB (b : Int) i) = true := by kernel_rfl
theorem ok_one (b i : Nat) (hb : b < 256) (hi : i < 4) : ∃ e q, check_Check.f [openB, cmdB (b : Int) i] = some (e, q) ∧ ((e == 17 || e == 18) == fitB (mostB b) i) = false ∧ ((e == 18) != decide (mostB b < 0)) = false := by
  have h := List.all_eq_true.1 (List.all_eq_true.1 ok_all b (List.mem_range.2 hb)) i (List.mem_range.2 hi)
  unfold okB at h
  cases hc : check_Check.f [openB, cmdB (b : Int) i] with
  | none => rw [hc] at h; cases h
  | some r =>
    rw [hc] at h
    obtain ⟨e, q⟩ := r
    simp only [Bool.and_eq_true, Bool.not_eq_true'] at h
    exact ⟨e, q, rfl, h.1, h.2⟩
theorem awake_true : runnellaw19_awake.f = some true := by kernel_rfl

/-! ### Four variables that are laid in any order, and filled in any order -/
def upd (g : Nat → Nat) (k n : Nat) : Nat → Nat := fun j => if j = k then n else g j
structure Four (C Z : List Value) (W : World) (b : Nat → Bool) (w' : World) (g : Nat → Nat) : Prop where
  bel : Below W.heap.size W w'
  at_ : ∀ k, k < 4 → b (4 + k) = true → W.heap.size ≤ g k ∧ w'.heap[g k]? = some (.cells (if b (8 + k) = true then C else Z).toArray 27 (0, 0))
  ne_ : ∀ j k, j < 4 → k < 4 → j ≠ k → b (4 + j) = true → b (4 + k) = true → g j ≠ g k
theorem Four.load {C Z : List Value} {W w' : World} {b : Nat → Bool} {g : Nat → Nat} (h : Four C Z W b w' g) {i : Nat} (hi : i < 4) : Four C Z W (up b i) w' g := by
  refine ⟨h.bel, fun k hk hb => ?_, fun j k hj hk hne h1 h2 => ?_⟩
  · rw [up_ne (by omega)] at hb
    rw [up_ne (by omega)]
    exact h.at_ k hk hb
  · rw [up_ne (by omega)] at h1 h2
    exact h.ne_ j k hj hk hne h1 h2
theorem Four.alloc {C Z : List Value} {W w' w1 : World} {b : Nat → Bool} {g : Nat → Nat} (h : Four C Z W b w' g) {i : Nat} (hi : i < 4) (h8 : b (8 + i) = false)
    (hz : w1.heap[w'.heap.size]? = some (.cells Z.toArray 27 (0, 0))) (hb : Below w'.heap.size w' w1) : Four C Z W (up b (4 + i)) w1 (upd g i w'.heap.size) := by
  refine ⟨below_step h.bel hb, fun k hk hk1 => ?_, fun j k hj hk hne h1 h2 => ?_⟩
  · by_cases e : k = i
    · subst e
      rw [up_ne (by omega), h8]
      simp only [upd, if_pos]
      exact ⟨h.bel.size, hz⟩
    · rw [up_ne (by omega)] at hk1
      rw [up_ne (by omega)]
      simp only [upd, if_neg e]
      have := h.at_ k hk hk1
      exact ⟨this.1, blk_below this.2 hb⟩
  · by_cases e : j = i
    · subst e
      rw [up_ne (by omega)] at h2
      simp only [upd, if_pos, if_neg (Ne.symm hne)]
      exact Nat.ne_of_gt (blk_lt (h.at_ k hk h2).2)
    · rw [up_ne (by omega)] at h1
      by_cases e2 : k = i
      · subst e2
        simp only [upd, if_pos, if_neg e]
        exact Nat.ne_of_lt (blk_lt (h.at_ j hj h1).2)
      · rw [up_ne (by omega)] at h2
        simp only [upd, if_neg e, if_neg e2]
        exact h.ne_ j k hj hk hne h1 h2
theorem Four.store {C Z : List Value} {W w' w1 : World} {b : Nat → Bool} {g : Nat → Nat} (h : Four C Z W b w' g) {i : Nat} (hi : i < 4) (h4 : b (4 + i) = true)
    (hz : w1.heap[g i]? = some (.cells C.toArray 27 (0, 0))) (hg : w'.grownBy w1 (some (g i))) : Four C Z W (up b (8 + i)) w1 g := by
  have hge := (h.at_ i hi h4).1
  refine ⟨h.bel.grown hg h.bel.size (fun k e => by cases e; exact hge), fun k hk hk1 => ?_, fun j k hj hk hne h1 h2 => ?_⟩
  · rw [up_ne (by omega)] at hk1
    have h3 := h.at_ k hk hk1
    by_cases e : k = i
    · subst e
      rw [up_self, if_pos rfl]
      exact ⟨hge, hz⟩
    · rw [up_ne (by omega)]
      exact ⟨h3.1, blk_grown h3.2 hg (fun e2 => h.ne_ k i hk hi e hk1 h4 (Option.some.inj e2))⟩
  · rw [up_ne (by omega)] at h1 h2
    exact h.ne_ j k hj hk hne h1 h2
theorem addr_add (g o j : Nat) : (⟨g, o, none⟩ : Addr).add j = ⟨g, o + j, none⟩ := by unfold Addr.add; split <;> simp_all
theorem cells_blk {w : World} {g : Nat} {t : TypeId} {l : List Value} (h : w.heap[g]? = some (.cells l.toArray t (0, 0))) (j : Nat) (v : Value) (hj : l[j]? = some v) : w.cell? ((⟨g, 0, none⟩ : Addr).add j) = some v := by
  have := blk_cell h (0 + j)
  rw [addr_add, this, Nat.zero_add]
  simpa using hj
/-! ### The walk -/
theorem store_seg {P : Program} {o : Oper} {a : Act} {w : World} (ty : TypeId) (x y : Operand) (ho : o.op = .store ty x y) (g off : Nat) (cells : List Value) (hx : a.eval x = .pointer (some ⟨g, off, none⟩)) (hy : a.eval y = .agg cells.toArray)
    (t : TypeId) (old new : List Value) (hg : w.heap[g]? = some (.cells old.toArray t (0, 0))) (hi : (P.info? ty).map (·.size) = some cells.length) (hoff : off + cells.length ≤ old.length) (h1 : cells.all (·.oneCell') = true)
    (hn : old.take off ++ cells ++ old.drop (off + cells.length) = new) : (execOp a.eval o).run P w = .ok .skip (w.setRow g new.toArray) := by
  have h := run_storeCells_at P g off t cells 0 old.toArray w hg (by simpa using hoff) (fun v hv => List.all_eq_true.1 h1 v hv)
  simp only [Nat.add_zero] at h
  rw [hn] at h
  unfold execOp
  cases hq : P.info? ty with
  | none => simp [hq] at hi
  | some i =>
    have hs : cells.length = i.size := by simp [hq] at hi; omega
    simp [ho, hx, hy, Instr.storeAt, Instr.sureAddr, storeVar, sizeOf, typeInfo, hq, Value.cells, hs, h]
theorem wpList_store_seg {P : Program} {ops : Array Oper} {rest : List Oper} {o : Oper} {a : Act} {w : World} {Q : Exit → Act → World → Prop} (hgd : o.guard = none) (hdst : o.dst = none) (ty : TypeId) (x y : Operand) (ho : o.op = .store ty x y) (g off : Nat) (cells : List Value) (hx : a.eval x = .pointer (some ⟨g, off, none⟩)) (hy : a.eval y = .agg cells.toArray)
    (t : TypeId) (old new : List Value) (hg : w.heap[g]? = some (.cells old.toArray t (0, 0))) (hi : (P.info? ty).map (·.size) = some cells.length) (hoff : off + cells.length ≤ old.length) (h1 : cells.all (·.oneCell') = true)
    (hn : old.take off ++ cells ++ old.drop (off + cells.length) = new) (h : ∀ w1, w1.heap[g]? = some (.cells new.toArray t (0, 0)) → w.grownBy w1 (some g) → wpList P ops Q rest a w1) : wpList P ops Q (o :: rest) a w := by
  refine wpList_plain hgd fun K hK => ?_
  unfold Oper.wp
  rw [store_seg ty x y ho g off cells hx hy t old new hg hi hoff h1 hn]
  have h2 := hK a _ (h _ (setRow_heap w g old.toArray new.toArray t (0, 0) hg) (setRow_grown hg))
  show K (a.put o.dst undef) _
  rw [hdst]
  exact h2
theorem lit_event {P : Program} {ops : Array Oper} {rest : List Oper} {o : Oper} {a : Act} {Q : Exit → Act → World → Prop} {W : World} (hgd : o.guard = none) {N : Tmp} (_hd : o.dst = some N) {n : Nat} {cs : Array Value} {t : TypeId}
    (hrun : (execOp a.eval o).run P W = .ok (.value (.slice (some ⟨W.heap.size, 0, none⟩) n n)) (W.alloc (.cells cs t (0, 0))))
    (h : ∀ g, g = W.heap.size → ∀ w1, w1.heap[g]? = some (.cells cs t (0, 0)) → Below W.heap.size W w1 → wpList P ops Q rest (a.put o.dst (.slice (some ⟨g, 0, none⟩) n n)) w1) : wpList P ops Q (o :: rest) a W :=
  Kd.event_run hgd hrun (h _ rfl _ (blk_new W _) (below_alloc (Below.refl _ _) _))
theorem grown_set {w : World} {g t : Nat} {cs : Array Value} (h : w.heap[g]? = some (.cells cs t (0, 0))) (i : Nat) (v : Value) : w.grownBy (w.setCell ⟨g, i, none⟩ v) (some g) := by
  refine ⟨rfl, rfl, rfl, by simp [World.setCell], fun k hk hne => ?_⟩
  exact Below.heap_setCell w ⟨g, i, none⟩ v k (fun e => hne (by rw [e]))
theorem fill4 (x : Int) : Instr.fill (fun i => some (i * 19, 19)) ((Array.range (4 * 19)).map ((Value.agg (cc zA zA false 0 ⟨#[]⟩).toArray).cells[· % (Value.agg (cc zA zA false 0 ⟨#[]⟩).toArray).cells.size]!)) [(0, .agg (ccB x 0).toArray), (1, .agg (ccB x 1).toArray), (2, .agg (ccB x 2).toArray), (3, .agg (ccB x 3).toArray)] = some (ccB x 0 ++ ccB x 1 ++ ccB x 2 ++ ccB x 3).toArray := by kernel_rfl
theorem infoC : (Try.prog.info? 27).map (fun i => (i.zero, i.size, i.bytes)) = some (some (.agg (cc zA zA false 0 ⟨#[]⟩).toArray), 19, 216) := by kernel_rfl
theorem run_row4 (x : Int) (w : World) : (Instr.buildSlice 22 4 #[(0, .agg (ccB x 0).toArray), (1, .agg (ccB x 1).toArray), (2, .agg (ccB x 2).toArray), (3, .agg (ccB x 3).toArray)]).run Try.prog w = .ok (.slice (some ⟨w.heap.size, 0, none⟩) 4 4) (w.alloc (.cells (ccB x 0 ++ ccB x 1 ++ ccB x 2 ++ ccB x 3).toArray 27)) := by
  obtain ⟨i0, hi, hz0, hz1, hz2⟩ := info_parts infoC
  exact run_buildSlice w 22 27 4 _ _ i0 _ Try.underlying22 hi hz0 (by rw [hz1]; decide) (by rw [hz1]; decide) (by rw [hz1]; exact fill4 x)
theorem row4_event {ops : Array Oper} {rest : List Oper} {o : Oper} {a : Act} {Q : Exit → Act → World → Prop} {W : World} (hgd : o.guard = none) (x : Int) (t0 t1 t2 t3 : Tmp) (ho : o.op = .buildSlice 22 4 #[(0, .tmp t0), (1, .tmp t1), (2, .tmp t2), (3, .tmp t3)])
    (h0 : a.eval (.tmp t0) = .agg (ccB x 0).toArray) (h1 : a.eval (.tmp t1) = .agg (ccB x 1).toArray) (h2 : a.eval (.tmp t2) = .agg (ccB x 2).toArray) (h3 : a.eval (.tmp t3) = .agg (ccB x 3).toArray)
    (h : ∀ g, g = W.heap.size → ∀ w1, w1.heap[g]? = some (.cells (ccB x 0 ++ ccB x 1 ++ ccB x 2 ++ ccB x 3).toArray 27 (0, 0)) → Below W.heap.size W w1 → wpList Try.prog ops Q rest (a.put o.dst (.slice (some ⟨g, 0, none⟩) 4 4)) w1) : wpList Try.prog ops Q (o :: rest) a W := by
  refine Kd.event_run hgd ?_ (h _ rfl _ (blk_new W _) (below_alloc (Below.refl _ _) _))
  unfold execOp
  simp only [ho, List.map_toArray, List.map_cons, List.map_nil, h0, h1, h2, h3, Sem.run_bind, run_row4, Result.andThen_ok]
  rfl
theorem ccB_len' (x : Int) (i : Nat) : (ccB x i).length = 19 := by
  rcases (by omega : i = 0 ∨ i = 1 ∨ i = 2 ∨ 3 ≤ i) with rfl | rfl | rfl | h
  · rfl
  · rfl
  · rfl
  · obtain ⟨k, rfl⟩ : ∃ k, i = k + 3 := ⟨i - 3, by omega⟩
    rfl
theorem fill1 (x : Int) (i : Nat) (hi : i < 4) : Instr.fill (fun i => some (i * 19, 19)) ((Array.range (1 * 19)).map ((Value.agg (cc zA zA false 0 ⟨#[]⟩).toArray).cells[· % (Value.agg (cc zA zA false 0 ⟨#[]⟩).toArray).cells.size]!)) [(0, .agg (ccB x i).toArray)] = some (ccB x i).toArray := by
  rcases (by omega : i = 0 ∨ i = 1 ∨ i = 2 ∨ i = 3) with rfl | rfl | rfl | rfl <;> kernel_rfl
theorem run_row1 (x : Int) (i : Nat) (hi : i < 4) (w : World) : (Instr.buildSlice 22 1 #[(0, .agg (ccB x i).toArray)]).run Try.prog w = .ok (.slice (some ⟨w.heap.size, 0, none⟩) 1 1) (w.alloc (.cells (ccB x i).toArray 27)) := by
  obtain ⟨i0, hi0, hz0, hz1, hz2⟩ := info_parts infoC
  exact run_buildSlice w 22 27 1 _ _ i0 _ Try.underlying22 hi0 hz0 (by rw [hz1]; decide) (by rw [hz1]; decide) (by rw [hz1]; exact fill1 x i hi)
theorem row1_op {o : Oper} {a : Act} {W : World} (x : Int) (i : Nat) (hi : i < 4) (t0 : Tmp) (ho : o.op = .buildSlice 22 1 #[(0, .tmp t0)]) (h0 : a.eval (.tmp t0) = .agg (ccB x i).toArray) : (execOp a.eval o).run Try.prog W = .ok (.value (.slice (some ⟨W.heap.size, 0, none⟩) 1 1)) (W.alloc (.cells (ccB x i).toArray 27 (0, 0))) := by
  unfold execOp
  simp only [ho, List.map_toArray, List.map_cons, List.map_nil, h0, Sem.run_bind, run_row1 x i hi, Result.andThen_ok]
  rfl
theorem own_two (x : Int) (i : Nat) (hi : i < 4) {w : World} {base : Nat} {v : Value} (h : w.ownsRow base 27 19 v (1 + 1) (cc zA zA false 123 ⟨#[]⟩ ++ ccB x i)) : ∃ A c, v = .slice A 2 c ∧ 2 ≤ c ∧ Kd.C k27 w A 2 [openB, cmdB x i] := by
  have hM : k27.M w base (fun k => True ∧ some k ≠ v.ownBlock) (cmdB x i) (ccB x i) := by
    rcases (by omega : i = 0 ∨ i = 1 ∨ i = 2 ∨ i = 3) with rfl | rfl | rfl | rfl
    · exact k27_mkM _ _ _ (cmdB x 0) (Kd.R_nil _ _ _ _ _)
    · exact k27_mkM _ _ _ (cmdB x 1) (Kd.R_nil _ _ _ _ _)
    · exact k27_mkM _ _ _ (cmdB x 2) (Kd.R_nil _ _ _ _ _)
    · exact k27_mkM _ _ _ (cmdB x 3) (Kd.R_nil _ _ _ _ _)
  have hR : Kd.R k27 27 w base (fun _ => True) v [openB, cmdB x i] := ⟨fun _ _ => trivial, _, h, Reps.front (k27_mkM _ _ _ openB (Kd.R_nil _ _ _ _ _)) rfl (Reps.front hM (ccB_len' x i) (Reps.none _ _) (List.append_nil _)) rfl⟩
  obtain ⟨A, c, rfl⟩ := Kd.R_slice hR
  obtain ⟨_, h2, h3⟩ := Kd.R_reads' hR
  exact ⟨A, c, rfl, h2, h3⟩
theorem ccB_len (x : Int) (i : Nat) : (ccB x i).length = 19 := by
  rcases (by omega : i = 0 ∨ i = 1 ∨ i = 2 ∨ 3 ≤ i) with rfl | rfl | rfl | h
  · rfl
  · rfl
  · rfl
  · obtain ⟨k, rfl⟩ : ∃ k, i = k + 3 := ⟨i - 3, by omega⟩
    rfl
theorem ccB_one (x : Int) (i : Nat) : (ccB x i).all (·.oneCell') = true := by
  rcases (by omega : i = 0 ∨ i = 1 ∨ i = 2 ∨ 3 ≤ i) with rfl | rfl | rfl | h
  · rfl
  · rfl
  · rfl
  · obtain ⟨k, rfl⟩ : ∃ k, i = k + 3 := ⟨i - 3, by omega⟩
    rfl
theorem ccB_put (x : Int) (i : Nat) : (cc zA zA false 0 ⟨#[]⟩).take 0 ++ ccB x i ++ (cc zA zA false 0 ⟨#[]⟩).drop (0 + (ccB x i).length) = ccB x i := by
  rw [ccB_len]
  simp [cc]
def updL (c : Nat → List Value) (k : Nat) (l : List Value) : Nat → List Value := fun j => if j = k then l else c j
structure Vars (w w' : World) (ga : Nat) (g : Nat → Nat) (c : Nat → List Value) : Prop where
  bel : Below w.heap.size w w'
  a_ : w'.heap[ga]? = some (.cells #[.int .i64 2, .int .i64 0, .string ⟨#[]⟩] 24 (0, 0))
  at_ : ∀ k, k < 4 → w.heap.size ≤ g k ∧ w'.heap[g k]? = some (.cells (c k).toArray 27 (0, 0))
  ne_ : ∀ j k, j < 4 → k < 4 → j ≠ k → g j ≠ g k
theorem Vars.put {w w' w1 : World} {ga : Nat} {g : Nat → Nat} {c : Nat → List Value} (h : Vars w w' ga g c) {i : Nat} (hi : i < 4) {l : List Value} (hz : w1.heap[g i]? = some (.cells l.toArray 27 (0, 0))) (hg : w'.grownBy w1 (some (g i))) : Vars w w1 ga g (updL c i l) := by
  refine ⟨h.bel.grown hg h.bel.size (fun k e => by cases e; exact (h.at_ i hi).1), blk_grown h.a_ hg (fun e => blk_ne h.a_ (h.at_ i hi).2 (by decide) (Option.some.inj e)), fun k hk => ⟨(h.at_ k hk).1, ?_⟩, h.ne_⟩
  by_cases e : k = i
  · subst e
    simp only [updL, if_pos]
    exact hz
  · simp only [updL, if_neg e]
    exact blk_grown (h.at_ k hk).2 hg (fun e2 => h.ne_ k i hk hi e (Option.some.inj e2))
theorem Vars.below {w w' w1 : World} {ga : Nat} {g : Nat → Nat} {c : Nat → List Value} (h : Vars w w' ga g c) (hb : Below w'.heap.size w' w1) : Vars w w1 ga g c :=
  ⟨below_step h.bel hb, blk_below h.a_ hb, fun k hk => ⟨(h.at_ k hk).1, blk_below (h.at_ k hk).2 hb⟩, h.ne_⟩
theorem Vars.fin {w w' : World} {ga : Nat} {g : Nat → Nat} {c : Nat → List Value} {x : Int} (hv : Vars w w' ga g c) (h0 : c 0 = ccB x 0) (h1 : c 1 = ccB x 1) (h2 : c 2 = ccB x 2) (h3 : c 3 = cc zA zA false x ⟨#[120]⟩) : Vars w (w'.setCell ⟨g 3, 7, none⟩ (.bool true)) ga g (ccB x) := by
  have hb := (hv.at_ 3 (by decide)).2
  rw [h3] at hb
  have h := hv.put (i := 3) (by decide) (l := cc zA zA true x ⟨#[120]⟩) (blk_set hb 7 (.bool true)) (grown_set hb 7 (.bool true))
  refine ⟨h.bel, h.a_, fun k hk => ?_, h.ne_⟩
  have h4 := h.at_ k hk
  rcases (by omega : k = 0 ∨ k = 1 ∨ k = 2 ∨ k = 3) with rfl | rfl | rfl | rfl
  · rw [← h0]; exact h4
  · rw [← h1]; exact h4
  · rw [← h2]; exact h4
  · exact h4
theorem row_at {w : World} {g : Nat} {x : Int} (h : w.heap[g]? = some (.cells (ccB x 0 ++ ccB x 1 ++ ccB x 2 ++ ccB x 3).toArray 27 (0, 0))) (i : Nat) (hi : i < 4) (j : Nat) (v : Value) (hj : (ccB x i)[j]? = some v) : w.cell? ((⟨g, i * 19, none⟩ : Addr).add j) = some v := by
  have hj19 : j < 19 := by
    have := (List.getElem?_eq_some_iff.1 hj).1
    rcases (by omega : i = 0 ∨ i = 1 ∨ i = 2 ∨ i = 3) with rfl | rfl | rfl | rfl <;> exact this
  have := blk_cell h (i * 19 + j)
  rw [addr_add, this]
  rcases (by omega : i = 0 ∨ i = 1 ∨ i = 2 ∨ i = 3) with rfl | rfl | rfl | rfl
  · rw [← hj]
    simp only [List.getElem?_toArray, Nat.zero_mul, Nat.zero_add, List.append_assoc]
    exact List.getElem?_append_left hj19
  · rw [← hj]
    simp only [List.getElem?_toArray, List.append_assoc]
    rw [List.getElem?_append_right (show 19 ≤ 1 * 19 + j by omega), show 1 * 19 + j - (ccB x 0).length = j from by show 1 * 19 + j - 19 = j; omega]
    exact List.getElem?_append_left hj19
  · rw [← hj]
    simp only [List.getElem?_toArray, List.append_assoc]
    rw [List.getElem?_append_right (show 19 ≤ 2 * 19 + j by omega), show 2 * 19 + j - (ccB x 0).length = 19 + j from by show 2 * 19 + j - 19 = 19 + j; omega, List.getElem?_append_right (show 19 ≤ 19 + j by omega), show 19 + j - (ccB x 1).length = j from by show 19 + j - 19 = j; omega]
    exact List.getElem?_append_left hj19
  · rw [← hj]
    simp only [List.getElem?_toArray, List.append_assoc]
    rw [List.getElem?_append_right (show 19 ≤ 3 * 19 + j by omega), show 3 * 19 + j - (ccB x 0).length = 19 + (19 + j) from by show 3 * 19 + j - 19 = 19 + (19 + j); omega, List.getElem?_append_right (show 19 ≤ 19 + (19 + j) by omega), show 19 + (19 + j) - (ccB x 1).length = 19 + j from by show 19 + (19 + j) - 19 = 19 + j; omega, List.getElem?_append_right (show 19 ≤ 19 + j by omega), show 19 + j - (ccB x 2).length = j from by show 19 + j - 19 = j; omega]

def addr_T38 : Bool × List (List Nat × List Nat) := (true, [([], []), ([], []), ([], []), ([], []), ([], []), ([], []), ([], []), ([], []), ([4, 0, 0, 4, 5, 6, 7], [0, 4]), ([5, 1, 8, 0, 1, 4, 5, 6, 7, 8], [1, 5]), ([6, 2, 9, 0, 1, 2, 4, 5, 6, 7, 8, 9], [2, 6]), ([7, 3, 10, 0, 1, 2, 3, 4, 5, 6, 7, 8, 9, 10], [3, 7])])
def addr_B38 : List Nat := [0, 0, 0, 0, 0, 0, 0, 0, 241, 499, 1015, 2047]
theorem addr_tab38 : rtab .any (opsOf Try.f6 38) = addr_T38 := by kernel_rfl
theorem addr_bits38 : waitsOk addr_T38.2 addr_B38 = true := by kernel_rfl
def addr_T49 : Bool × List (List Nat × List Nat) := (true, [([], []), ([0], [0]), ([], []), ([2], [2]), ([1, 3], [1, 3]), ([4, 4], [4]), ([], []), ([6, 5, 5, 0, 1, 2, 3, 4, 5, 6], [5, 6])])
def addr_B49 : List Nat := [0, 1, 0, 4, 15, 31, 0, 127]
theorem addr_tab49 : rtab .any (opsOf Try.f6 49) = addr_T49 := by kernel_rfl
theorem addr_bits49 : waitsOk addr_T49.2 addr_B49 = true := by kernel_rfl
/-- Nothing is left open: the law is closed. -/
def runnellaw19_CheckAddresses.Pure : Prop := True
set_option maxHeartbeats 4000000 in
set_option maxRecDepth 100000 in
theorem runnellaw19_CheckAddresses.walk (P_ : runnellaw19_CheckAddresses.Pure) (w : World) :
    Calls Try.prog 6 #[] w fun e w' => e = .returned (.bool true) ∧ Below w.heap.size w w' := by
  go_enter Try.func6, Try.ntmps6
  go_wp2
  go_loopg [17] 256 (fun gk v17 wr => ∃ b : Nat, v17 = .int .i64 (b : Int) ∧ b + gk = 256 ∧ Aside0 (wr.heap[w.heap.size]? = some (.cells #[.int .i64 2, .int .i64 0, .string ⟨#[]⟩] 24 (0, 0))) ∧ Aside0 (Below w.heap.size w wr))
  case atStart => exact ⟨0, rfl, rfl, ⟨blk_new w _⟩, ⟨below_alloc (Below.refl _ _) _⟩⟩
  case round =>
    obtain ⟨b, rfl, hb, HA, HB⟩ := hrel
    cases gk with
    | zero =>
      have c3 : decide ((b : Int) < 256) = false := decide_eq_false (by omega)
      clear hb
      go_wp2_with (go_at_call 20; refine (runnellaw19_awake.calls true _ awake_true).mono ?_; rintro e w1 ⟨rfl, hb1⟩)
      go_ret
      exact ⟨rfl, below_step HB.out hb1⟩
    | succ gq =>
      have hlt : b < 256 := by omega
      have c3 : decide ((b : Int) < 256) = true := decide_eq_true (by omega)
      have hbw : IntKind.u8.wrap (b : Int) = (b : Int) := by
        simp [IntKind.wrap, IntKind.bits, IntKind.signed]
        omega
      have HN := Aside0.mk (And.intro hb hlt)
      clear hb hlt
      go_upto_block 2 with (first | ((with_reducible refine gate_dst (N := 4) rfl ?_); refine box_event ?hg (N := 4) ?hd (cs := (cc zA zA false 0 ⟨#[]⟩).toArray) (t := 27) ?hr ?_; (case hd => rfl); (case hg => rfl); (case hr => first | (go_simp; done) | (go_simp; rfl)); intro gc hgc w1 hbox hb1; have HC := Aside0.mk hbox; have HB1 := Aside0.mk hb1; have HGC := Aside0.mk hgc; clear hbox hb1 hgc) | ((with_reducible refine gate_store (p := 4) rfl ?_); refine wpList_store_seg rfl rfl 27 (.tmp 4) (.tmp 23) rfl gc 0 (cc zA zA false b ⟨#[120]⟩) rfl rfl 27 _ (cc zA zA false b ⟨#[120]⟩) HC.out (by kernel_rfl) (show 0 + 19 ≤ 19 from by decide) rfl rfl ?_; intro w2 hb2 hg2; have HC2 := Aside0.mk hb2; have HG2 := Aside0.mk hg2; clear hb2 hg2))
      have HC3 := Aside0.mk (blk_drew HC2.out)
      have HB3 := Aside0.mk (below_drew1 (below_step HB.out (Below.grown (below_step (Below.refl _ _) HB1.out) HG2.out HB1.out.size (fun k e => by cases e; rw [HGC.out]; exact Nat.le_refl _))))
      have HA3 := Aside0.mk (blk_drew (blk_grown (blk_below HA.out HB1.out) HG2.out (fun e => blk_ne (blk_below HA.out HB1.out) HC.out (by decide) (Option.some.inj e))))
      have HM : ∃ m, mostB (b : Int) = m := ⟨_, rfl⟩
      obtain ⟨m, hm⟩ := HM
      go_cut [5] (fun v5 wc => v5 = .int .i64 m ∧ wc = w2)
      case first =>
        clear HC3 HB3 HA3 HC HB1 HGC HC2 HG2 HA HB
        go_wp2
        all_goals
          go_meet
          case rel =>
            refine ⟨?_, rfl⟩
            rw [← hm]
            simp only [mostB, *, if_true, if_false, Bool.false_eq_true]
      case rest =>
      obtain ⟨rfl, rfl⟩ := hcut
      have HM := Aside0.mk hm
      clear hm HC HB1 HGC HC2 HG2 HA HB
      go_wp2
      refine start_ (n := 12) (S := fun w' => True) (ds := []) #[false, false, false, false, false, false, false, false, false, false, false, false] (by kernel_rfl) rfl rfl trivial (fun hHeld => ?_)
      refine with_tabW addr_tab38 addr_bits38 (fun HT_ HW_ => ?_)
      generalize World.drew _ = W at HC3 HB3 HA3 hHeld ⊢
      refine inv_at [0, 1, 2, 3, 4, 5, 6, 7, 8, 9, 10, 11] (fun a0_ b_ a w' => ∃ g : Nat → Nat, a = putSel a0_ b_ [(0, 54, .agg (cc zA zA false (b : Int) ⟨#[120]⟩).toArray), (1, 55, .agg (cc zA zA false (b : Int) ⟨#[120]⟩).toArray), (2, 56, .agg (cc zA zA false (b : Int) ⟨#[120]⟩).toArray), (3, 57, .agg (cc zA zA false (b : Int) ⟨#[120]⟩).toArray), (4, 6, .pointer (some ⟨g 0, 0, none⟩)), (5, 7, .pointer (some ⟨g 1, 0, none⟩)), (6, 8, .pointer (some ⟨g 2, 0, none⟩)), (7, 9, .pointer (some ⟨g 3, 0, none⟩))] ∧ Four (cc zA zA false (b : Int) ⟨#[120]⟩) (cc zA zA false 0 ⟨#[]⟩) W b_ w' g) HT_.out HW_.out (by kernel_rfl) (by kernel_rfl) ?_ ?_ ?_
      · exact ⟨fun _ => 0, by simp only [putSel, Bool.false_eq_true, if_false], ⟨Below.refl _ _, (fun k _ h => by cases h), (fun j k _ _ _ h => by cases h)⟩⟩
      · skip
        refine steps_cons ?_ ?_
        · rintro b_ a w' ⟨g, ha, hF⟩ hb_ hon hoff
          refine ⟨_, rfl, fun K hK => ?_⟩
          have e4 : a.tmps[4]? = some (.pointer (some ⟨gc, 0, none⟩)) := by rw [ha]; exact (putSel_off rfl).trans rfl
          refine value_ (w1 := w') (v := .agg (cc zA zA false (b : Int) ⟨#[120]⟩).toArray) (by rfl) rfl ?_ ?_
          · exact run_load_op 27 (.tmp 4) rfl ⟨gc, 0, none⟩ (by simp only [Act.eval, Array.getD_eq_getD_getElem?, e4, Option.getD_some]) _ _ (cells_blk (blk_below HC3.out hF.bel)) Try.underlying27 rfl (by kernel_rfl)
          · exact hK.out _ _ ⟨g, by rw [ha]; exact putSel_upk 0 hb_ rfl rfl rfl, hF.load (by decide)⟩
        refine steps_cons ?_ ?_
        · rintro b_ a w' ⟨g, ha, hF⟩ hb_ hon hoff
          refine ⟨_, rfl, fun K hK => ?_⟩
          have e4 : a.tmps[4]? = some (.pointer (some ⟨gc, 0, none⟩)) := by rw [ha]; exact (putSel_off rfl).trans rfl
          refine value_ (w1 := w') (v := .agg (cc zA zA false (b : Int) ⟨#[120]⟩).toArray) (by rfl) rfl ?_ ?_
          · exact run_load_op 27 (.tmp 4) rfl ⟨gc, 0, none⟩ (by simp only [Act.eval, Array.getD_eq_getD_getElem?, e4, Option.getD_some]) _ _ (cells_blk (blk_below HC3.out hF.bel)) Try.underlying27 rfl (by kernel_rfl)
          · exact hK.out _ _ ⟨g, by rw [ha]; exact putSel_upk 1 hb_ rfl rfl rfl, hF.load (by decide)⟩
        refine steps_cons ?_ ?_
        · rintro b_ a w' ⟨g, ha, hF⟩ hb_ hon hoff
          refine ⟨_, rfl, fun K hK => ?_⟩
          have e4 : a.tmps[4]? = some (.pointer (some ⟨gc, 0, none⟩)) := by rw [ha]; exact (putSel_off rfl).trans rfl
          refine value_ (w1 := w') (v := .agg (cc zA zA false (b : Int) ⟨#[120]⟩).toArray) (by rfl) rfl ?_ ?_
          · exact run_load_op 27 (.tmp 4) rfl ⟨gc, 0, none⟩ (by simp only [Act.eval, Array.getD_eq_getD_getElem?, e4, Option.getD_some]) _ _ (cells_blk (blk_below HC3.out hF.bel)) Try.underlying27 rfl (by kernel_rfl)
          · exact hK.out _ _ ⟨g, by rw [ha]; exact putSel_upk 2 hb_ rfl rfl rfl, hF.load (by decide)⟩
        refine steps_cons ?_ ?_
        · rintro b_ a w' ⟨g, ha, hF⟩ hb_ hon hoff
          refine ⟨_, rfl, fun K hK => ?_⟩
          have e4 : a.tmps[4]? = some (.pointer (some ⟨gc, 0, none⟩)) := by rw [ha]; exact (putSel_off rfl).trans rfl
          refine value_ (w1 := w') (v := .agg (cc zA zA false (b : Int) ⟨#[120]⟩).toArray) (by rfl) rfl ?_ ?_
          · exact run_load_op 27 (.tmp 4) rfl ⟨gc, 0, none⟩ (by simp only [Act.eval, Array.getD_eq_getD_getElem?, e4, Option.getD_some]) _ _ (cells_blk (blk_below HC3.out hF.bel)) Try.underlying27 rfl (by kernel_rfl)
          · exact hK.out _ _ ⟨g, by rw [ha]; exact putSel_upk 3 hb_ rfl rfl rfl, hF.load (by decide)⟩
        refine steps_cons ?_ ?_
        · rintro b_ a w' ⟨g, ha, hF⟩ hb_ hon hoff
          refine ⟨_, rfl, fun K hK => ?_⟩
          refine box_step ?hg (N := 6) ?hd (cs := (cc zA zA false 0 ⟨#[]⟩).toArray) (t := 27) ?hr ?_; (case hd => rfl); (case hg => rfl); (case hr => first | (go_simp; done) | (go_simp; rfl))
          rintro gn rfl w10 hbox hb1
          exact hK.out _ _ ⟨upd g 0 w'.heap.size, by rw [ha]; exact putSel_upk 4 hb_ rfl rfl rfl, hF.alloc (i := 0) (by decide) (hoff 8 (by kernel_rfl)) hbox hb1⟩
        refine steps_cons ?_ ?_
        · rintro b_ a w' ⟨g, ha, hF⟩ hb_ hon hoff
          refine ⟨_, rfl, fun K hK => ?_⟩
          refine box_step ?hg (N := 7) ?hd (cs := (cc zA zA false 0 ⟨#[]⟩).toArray) (t := 27) ?hr ?_; (case hd => rfl); (case hg => rfl); (case hr => first | (go_simp; done) | (go_simp; rfl))
          rintro gn rfl w10 hbox hb1
          exact hK.out _ _ ⟨upd g 1 w'.heap.size, by rw [ha]; exact putSel_upk 5 hb_ rfl rfl rfl, hF.alloc (i := 1) (by decide) (hoff 9 (by kernel_rfl)) hbox hb1⟩
        refine steps_cons ?_ ?_
        · rintro b_ a w' ⟨g, ha, hF⟩ hb_ hon hoff
          refine ⟨_, rfl, fun K hK => ?_⟩
          refine box_step ?hg (N := 8) ?hd (cs := (cc zA zA false 0 ⟨#[]⟩).toArray) (t := 27) ?hr ?_; (case hd => rfl); (case hg => rfl); (case hr => first | (go_simp; done) | (go_simp; rfl))
          rintro gn rfl w10 hbox hb1
          exact hK.out _ _ ⟨upd g 2 w'.heap.size, by rw [ha]; exact putSel_upk 6 hb_ rfl rfl rfl, hF.alloc (i := 2) (by decide) (hoff 10 (by kernel_rfl)) hbox hb1⟩
        refine steps_cons ?_ ?_
        · rintro b_ a w' ⟨g, ha, hF⟩ hb_ hon hoff
          refine ⟨_, rfl, fun K hK => ?_⟩
          refine box_step ?hg (N := 9) ?hd (cs := (cc zA zA false 0 ⟨#[]⟩).toArray) (t := 27) ?hr ?_; (case hd => rfl); (case hg => rfl); (case hr => first | (go_simp; done) | (go_simp; rfl))
          rintro gn rfl w10 hbox hb1
          exact hK.out _ _ ⟨upd g 3 w'.heap.size, by rw [ha]; exact putSel_upk 7 hb_ rfl rfl rfl, hF.alloc (i := 3) (by decide) (hoff 11 (by kernel_rfl)) hbox hb1⟩
        refine steps_cons ?_ ?_
        · rintro b_ a w' ⟨g, ha, hF⟩ hb_ hon hoff
          refine ⟨_, rfl, fun K hK => ?_⟩
          have e1 : a.tmps[6]? = some (.pointer (some ⟨g 0, 0, none⟩)) := by rw [ha]; exact putSel_on (e := (4, 6, .pointer (some ⟨g 0, 0, none⟩))) 4 rfl rfl (hon 4 (by kernel_rfl)) rfl
          have e2 : a.tmps[54]? = some (.agg (cc zA zA false (b : Int) ⟨#[120]⟩).toArray) := by rw [ha]; exact putSel_on (e := (0, 54, .agg (cc zA zA false (b : Int) ⟨#[120]⟩).toArray)) 0 rfl rfl (hon 0 (by kernel_rfl)) rfl
          have hz := (hF.at_ 0 (by decide) (hon 4 (by kernel_rfl))).2
          rw [if_neg (by rw [hb_]; decide)] at hz
          refine skip_ (by rfl) rfl (store_seg 27 (.tmp 6) (.tmp 54) rfl (g 0) 0 (cc zA zA false (b : Int) ⟨#[120]⟩) (by simp only [Act.eval, Array.getD_eq_getD_getElem?, e1, Option.getD_some]) (by simp only [Act.eval, Array.getD_eq_getD_getElem?, e2, Option.getD_some]) 27 _ (cc zA zA false (b : Int) ⟨#[120]⟩) hz (by kernel_rfl) (show 0 + 19 ≤ 19 from by decide) rfl rfl) ?_
          exact hK.out _ _ ⟨g, by rw [ha]; exact (putSel_same rfl).symm, hF.store (i := 0) (by decide) (hon 4 (by kernel_rfl)) (setRow_heap _ _ _ _ _ _ hz) (setRow_grown hz)⟩
        refine steps_cons ?_ ?_
        · rintro b_ a w' ⟨g, ha, hF⟩ hb_ hon hoff
          refine ⟨_, rfl, fun K hK => ?_⟩
          have e1 : a.tmps[7]? = some (.pointer (some ⟨g 1, 0, none⟩)) := by rw [ha]; exact putSel_on (e := (5, 7, .pointer (some ⟨g 1, 0, none⟩))) 5 rfl rfl (hon 5 (by kernel_rfl)) rfl
          have e2 : a.tmps[55]? = some (.agg (cc zA zA false (b : Int) ⟨#[120]⟩).toArray) := by rw [ha]; exact putSel_on (e := (1, 55, .agg (cc zA zA false (b : Int) ⟨#[120]⟩).toArray)) 1 rfl rfl (hon 1 (by kernel_rfl)) rfl
          have hz := (hF.at_ 1 (by decide) (hon 5 (by kernel_rfl))).2
          rw [if_neg (by rw [hb_]; decide)] at hz
          refine skip_ (by rfl) rfl (store_seg 27 (.tmp 7) (.tmp 55) rfl (g 1) 0 (cc zA zA false (b : Int) ⟨#[120]⟩) (by simp only [Act.eval, Array.getD_eq_getD_getElem?, e1, Option.getD_some]) (by simp only [Act.eval, Array.getD_eq_getD_getElem?, e2, Option.getD_some]) 27 _ (cc zA zA false (b : Int) ⟨#[120]⟩) hz (by kernel_rfl) (show 0 + 19 ≤ 19 from by decide) rfl rfl) ?_
          exact hK.out _ _ ⟨g, by rw [ha]; exact (putSel_same rfl).symm, hF.store (i := 1) (by decide) (hon 5 (by kernel_rfl)) (setRow_heap _ _ _ _ _ _ hz) (setRow_grown hz)⟩
        refine steps_cons ?_ ?_
        · rintro b_ a w' ⟨g, ha, hF⟩ hb_ hon hoff
          refine ⟨_, rfl, fun K hK => ?_⟩
          have e1 : a.tmps[8]? = some (.pointer (some ⟨g 2, 0, none⟩)) := by rw [ha]; exact putSel_on (e := (6, 8, .pointer (some ⟨g 2, 0, none⟩))) 6 rfl rfl (hon 6 (by kernel_rfl)) rfl
          have e2 : a.tmps[56]? = some (.agg (cc zA zA false (b : Int) ⟨#[120]⟩).toArray) := by rw [ha]; exact putSel_on (e := (2, 56, .agg (cc zA zA false (b : Int) ⟨#[120]⟩).toArray)) 2 rfl rfl (hon 2 (by kernel_rfl)) rfl
          have hz := (hF.at_ 2 (by decide) (hon 6 (by kernel_rfl))).2
          rw [if_neg (by rw [hb_]; decide)] at hz
          refine skip_ (by rfl) rfl (store_seg 27 (.tmp 8) (.tmp 56) rfl (g 2) 0 (cc zA zA false (b : Int) ⟨#[120]⟩) (by simp only [Act.eval, Array.getD_eq_getD_getElem?, e1, Option.getD_some]) (by simp only [Act.eval, Array.getD_eq_getD_getElem?, e2, Option.getD_some]) 27 _ (cc zA zA false (b : Int) ⟨#[120]⟩) hz (by kernel_rfl) (show 0 + 19 ≤ 19 from by decide) rfl rfl) ?_
          exact hK.out _ _ ⟨g, by rw [ha]; exact (putSel_same rfl).symm, hF.store (i := 2) (by decide) (hon 6 (by kernel_rfl)) (setRow_heap _ _ _ _ _ _ hz) (setRow_grown hz)⟩
        refine steps_cons ?_ ?_
        · rintro b_ a w' ⟨g, ha, hF⟩ hb_ hon hoff
          refine ⟨_, rfl, fun K hK => ?_⟩
          have e1 : a.tmps[9]? = some (.pointer (some ⟨g 3, 0, none⟩)) := by rw [ha]; exact putSel_on (e := (7, 9, .pointer (some ⟨g 3, 0, none⟩))) 7 rfl rfl (hon 7 (by kernel_rfl)) rfl
          have e2 : a.tmps[57]? = some (.agg (cc zA zA false (b : Int) ⟨#[120]⟩).toArray) := by rw [ha]; exact putSel_on (e := (3, 57, .agg (cc zA zA false (b : Int) ⟨#[120]⟩).toArray)) 3 rfl rfl (hon 3 (by kernel_rfl)) rfl
          have hz := (hF.at_ 3 (by decide) (hon 7 (by kernel_rfl))).2
          rw [if_neg (by rw [hb_]; decide)] at hz
          refine skip_ (by rfl) rfl (store_seg 27 (.tmp 9) (.tmp 57) rfl (g 3) 0 (cc zA zA false (b : Int) ⟨#[120]⟩) (by simp only [Act.eval, Array.getD_eq_getD_getElem?, e1, Option.getD_some]) (by simp only [Act.eval, Array.getD_eq_getD_getElem?, e2, Option.getD_some]) 27 _ (cc zA zA false (b : Int) ⟨#[120]⟩) hz (by kernel_rfl) (show 0 + 19 ≤ 19 from by decide) rfl rfl) ?_
          exact hK.out _ _ ⟨g, by rw [ha]; exact (putSel_same rfl).symm, hF.store (i := 3) (by decide) (hon 7 (by kernel_rfl)) (setRow_heap _ _ _ _ _ _ hz) (setRow_grown hz)⟩
        exact steps_nil
      · rintro b_ a w' hall ⟨g, ha, hF⟩
        have hb0_ := hall 0 (by kernel_rfl)
        have hb1_ := hall 1 (by kernel_rfl)
        have hb2_ := hall 2 (by kernel_rfl)
        have hb3_ := hall 3 (by kernel_rfl)
        have hb4_ := hall 4 (by kernel_rfl)
        have hb5_ := hall 5 (by kernel_rfl)
        have hb6_ := hall 6 (by kernel_rfl)
        have hb7_ := hall 7 (by kernel_rfl)
        subst ha
        simp only [putSel, hb0_, hb1_, hb2_, hb3_, hb4_, hb5_, hb6_, hb7_, if_true, Act.put, List.setIfInBounds_toArray, List.set_cons_zero, List.set_cons_succ]
        have HV : Aside0 (Vars w w' w.heap.size g (fun _ => cc zA zA false (b : Int) ⟨#[120]⟩)) := by
          refine ⟨below_step HB3.out hF.bel, blk_below HA3.out hF.bel, fun k hk => ?_, fun j k hj hk hne => hF.ne_ j k hj hk hne (hall _ (by rcases (by omega : j = 0 ∨ j = 1 ∨ j = 2 ∨ j = 3) with rfl | rfl | rfl | rfl <;> rfl)) (hall _ (by rcases (by omega : k = 0 ∨ k = 1 ∨ k = 2 ∨ k = 3) with rfl | rfl | rfl | rfl <;> rfl))⟩
          have h := hF.at_ k hk (hall _ (by rcases (by omega : k = 0 ∨ k = 1 ∨ k = 2 ∨ k = 3) with rfl | rfl | rfl | rfl <;> rfl))
          rw [if_pos (hall _ (by rcases (by omega : k = 0 ∨ k = 1 ∨ k = 2 ∨ k = 3) with rfl | rfl | rfl | rfl <;> rfl))] at h
          exact ⟨Nat.le_trans HB3.out.size h.1, h.2⟩
        clear hall hF HC3 HB3 HA3 hHeld HT_ HW_ hb0_ hb1_ hb2_ hb3_ hb4_ hb5_ hb6_ hb7_
        go_upto_region 44 with (first | ((with_reducible refine gate_dst (N := 58) rfl ?_); refine wpList_load_row rfl 24 (.tmp 1) rfl w.heap.size rfl 24 #[.int .i64 2, .int .i64 0, .string ⟨#[]⟩] (0, 0) _ HV.out.a_ Try.underlying24 rfl (by kernel_rfl) ?_) | ((with_reducible refine gate_dst (N := 60) rfl ?_); refine wpList_load_row rfl 24 (.tmp 1) rfl w.heap.size rfl 24 #[.int .i64 2, .int .i64 0, .string ⟨#[]⟩] (0, 0) _ HV.out.a_ Try.underlying24 rfl (by kernel_rfl) ?_) | ((with_reducible refine gate_dst (N := 62) rfl ?_); refine wpList_load_row rfl 24 (.tmp 1) rfl w.heap.size rfl 24 #[.int .i64 2, .int .i64 0, .string ⟨#[]⟩] (0, 0) _ HV.out.a_ Try.underlying24 rfl (by kernel_rfl) ?_) | ((with_reducible refine gate_dst (N := 64) rfl ?_); refine wpList_load_row rfl 24 (.tmp 1) rfl w.heap.size rfl 24 #[.int .i64 2, .int .i64 0, .string ⟨#[]⟩] (0, 0) _ HV.out.a_ Try.underlying24 rfl (by kernel_rfl) ?_) | ((with_reducible refine gate_store (p := 59) rfl ?_); refine wpList_store_seg rfl rfl 24 (.tmp 59) (.tmp 58) rfl (g 0) 1 [.int .i64 2, .int .i64 0, .string ⟨#[]⟩] rfl rfl 27 _ (cc aA zA false (b : Int) ⟨#[120]⟩) (HV.out.at_ 0 (by decide)).2 (by kernel_rfl) (show 1 + 3 ≤ 19 from by decide) rfl rfl ?_; intro w5 hb5 hg5; have HV_ := Aside0.mk (HV.out.put (i := 0) (by decide) hb5 hg5); clear HV hb5 hg5; have HV := HV_; clear HV_) | ((with_reducible refine gate_store (p := 61) rfl ?_); refine wpList_store_seg rfl rfl 24 (.tmp 61) (.tmp 60) rfl (g 0) 4 [.int .i64 2, .int .i64 0, .string ⟨#[]⟩] rfl rfl 27 _ (cc aA aA false (b : Int) ⟨#[120]⟩) (HV.out.at_ 0 (by decide)).2 (by kernel_rfl) (show 4 + 3 ≤ 19 from by decide) rfl rfl ?_; intro w5 hb5 hg5; have HV_ := Aside0.mk (HV.out.put (i := 0) (by decide) hb5 hg5); clear HV hb5 hg5; have HV := HV_; clear HV_) | ((with_reducible refine gate_store (p := 63) rfl ?_); refine wpList_store_seg rfl rfl 24 (.tmp 63) (.tmp 62) rfl (g 1) 1 [.int .i64 2, .int .i64 0, .string ⟨#[]⟩] rfl rfl 27 _ (cc aA zA false (b : Int) ⟨#[120]⟩) (HV.out.at_ 1 (by decide)).2 (by kernel_rfl) (show 1 + 3 ≤ 19 from by decide) rfl rfl ?_; intro w5 hb5 hg5; have HV_ := Aside0.mk (HV.out.put (i := 1) (by decide) hb5 hg5); clear HV hb5 hg5; have HV := HV_; clear HV_) | ((with_reducible refine gate_store (p := 65) rfl ?_); refine wpList_store_seg rfl rfl 24 (.tmp 65) (.tmp 64) rfl (g 2) 4 [.int .i64 2, .int .i64 0, .string ⟨#[]⟩] rfl rfl 27 _ (cc zA aA false (b : Int) ⟨#[120]⟩) (HV.out.at_ 2 (by decide)).2 (by kernel_rfl) (show 4 + 3 ≤ 19 from by decide) rfl rfl ?_; intro w5 hb5 hg5; have HV_ := Aside0.mk (HV.out.put (i := 2) (by decide) hb5 hg5); clear HV hb5 hg5; have HV := HV_; clear HV_; have hc37 : _ = some (Value.bool false) := (blk_cell (HV.out.at_ 3 (by decide)).2 7).trans rfl; have hf37 := blk_frozen (HV.out.at_ 3 (by decide)).2 7))
        have HV2 := Aside0.mk (HV.out.fin (x := (b : Int)) rfl rfl rfl rfl)
        clear HV
        generalize World.setCell _ ⟨g 3, 7, none⟩ _ = w6 at HV2 ⊢
        go_wp2_with (first | ((with_reducible refine gate_dst (N := 68) rfl ?_); refine lit_event ?hg (N := 68) ?hd (n := 1) (cs := (cc zA zA false 123 ⟨#[]⟩).toArray) (t := 27) ?hr ?_; (case hd => rfl); (case hg => rfl); (case hr => first | (go_simp; done) | (go_simp; rfl)); intro gh hgh w7 hbox hb7; have HV_ := Aside0.mk (HV2.out.below hb7); clear HV2; have HV2 := HV_; clear HV_; have HH := Aside0.mk hbox; clear hbox hb7 hgh) | ((with_reducible refine gate_dst (N := 75) rfl ?_); refine lit_event ?hg (N := 75) ?hd (n := 4) (cs := #[.bool (m == 2), .bool (decide (1 ≤ m)), .bool false, .bool (decide (1 ≤ m))]) (t := 4) ?hr ?_; (case hd => rfl); (case hg => rfl); (case hr => first | (go_simp; done) | (go_simp; rfl)); intro gf hgf w7 hbox hb7; have HV_ := Aside0.mk (HV2.out.below hb7); clear HV2; have HV2 := HV_; clear HV_; have HH_ := Aside0.mk (blk_below HH.out hb7); clear HH; have HH := HH_; clear HH_; have HF := Aside0.mk hbox; clear hbox hb7 hgf) | ((with_reducible refine gate_dst (N := 80) rfl ?_); refine row4_event rfl (b : Int) 76 77 78 79 rfl rfl rfl rfl rfl ?_; intro gr hgr w7 hbox hb7; have HV_ := Aside0.mk (HV2.out.below hb7); clear HV2; have HV2 := HV_; clear HV_; have HH_ := Aside0.mk (blk_below HH.out hb7); clear HH; have HH := HH_; clear HH_; have HF_ := Aside0.mk (blk_below HF.out hb7); clear HF; have HF := HF_; clear HF_; have HR := Aside0.mk hbox; clear hbox hb7 hgr) | ((with_reducible refine gate_dst (N := 76) rfl ?_); refine wpList_load_row rfl 27 (.tmp 6) rfl (g 0) rfl 27 (ccB (b : Int) 0).toArray (0, 0) _ (HV2.out.at_ 0 (by decide)).2 Try.underlying27 rfl (by kernel_rfl) ?_) | ((with_reducible refine gate_dst (N := 77) rfl ?_); refine wpList_load_row rfl 27 (.tmp 7) rfl (g 1) rfl 27 (ccB (b : Int) 1).toArray (0, 0) _ (HV2.out.at_ 1 (by decide)).2 Try.underlying27 rfl (by kernel_rfl) ?_) | ((with_reducible refine gate_dst (N := 78) rfl ?_); refine wpList_load_row rfl 27 (.tmp 8) rfl (g 2) rfl 27 (ccB (b : Int) 2).toArray (0, 0) _ (HV2.out.at_ 2 (by decide)).2 Try.underlying27 rfl (by kernel_rfl) ?_) | ((with_reducible refine gate_dst (N := 79) rfl ?_); refine wpList_load_row rfl 27 (.tmp 9) rfl (g 3) rfl 27 (ccB (b : Int) 3).toArray (0, 0) _ (HV2.out.at_ 3 (by decide)).2 Try.underlying27 rfl (by kernel_rfl) ?_))
        go_loopg [82] 4 (fun g2 v82 wr2 => ∃ i : Nat, v82 = .int .i64 (i : Int) ∧ i + g2 = 4 ∧ Aside0 (Below w7.heap.size w7 wr2))
        case atStart => exact ⟨0, rfl, rfl, ⟨Below.refl _ _⟩⟩
        case round =>
          obtain ⟨i, rfl, hi, HI⟩ := hrel
          have HNI := Aside0.mk hi
          cases gk with
          | zero =>
            have c4 : decide ((i : Int) < 4) = false := decide_eq_false (by omega)
            clear hi
            go_wp2
            go_roundg gq
            case rel => exact ⟨b + 1, by rw [show wrap64 ((b : Int) + 1) = ((b + 1 : Nat) : Int) from by have h2 := HN.out.2; rw [wrap_id (by omega) (by omega)]; omega], by have := HN.out.1; omega, ⟨blk_below HV2.out.a_ HI.out⟩, ⟨below_step HV2.out.bel HI.out⟩⟩
            case measure => omega
          | succ gi =>
            have hi4 : i < 4 := by omega
            have c4 : decide ((i : Int) < 4) = true := decide_eq_true (by omega)
            have p4 : (0 ≤ (i : Int)) = True := eq_true (by omega)
            have q4 : ((i : Int) < 4) = True := eq_true (by omega)
            have HI4 := Aside0.mk hi4
            clear hi hi4
            go_upto_region 49 with (first | ((with_reducible refine gate_dst (N := 86) rfl ?_); refine wpList_load_any rfl 27 (.tmp 85) rfl _ rfl (ccB (b : Int) i) _ (row_at (blk_below HR.out HI.out) i HI4.out) Try.underlying27 rfl (by rw [ccB_len]; kernel_rfl) ?_) | ((with_reducible refine gate_dst (N := 13) rfl ?_); refine box_event ?hg (N := 13) ?hd (cs := (cc zA zA false 0 ⟨#[]⟩).toArray) (t := 27) ?hr ?_; (case hd => rfl); (case hg => rfl); (case hr => first | (go_simp; done) | (go_simp; rfl)); intro gd hgd w8 hbox hb8; have HD := Aside0.mk hbox; have HB8 := Aside0.mk (below_step HI.out hb8); have HGD := Aside0.mk (Nat.le_trans HI.out.size (Nat.le_of_eq hgd.symm)); clear hbox hb8 hgd) | ((with_reducible refine gate_store (p := 13) rfl ?_); refine wpList_store_seg rfl rfl 27 (.tmp 13) (.tmp 86) rfl gd 0 (ccB (b : Int) i) rfl rfl 27 _ (ccB (b : Int) i) HD.out (by rw [ccB_len]; kernel_rfl) (by rw [ccB_len]; exact (show 0 + 19 ≤ 19 from by decide)) (ccB_one _ _) (ccB_put _ _) ?_; intro w9 hb9 hg9; have HD9 := Aside0.mk hb9; have HB9 := Aside0.mk (Below.grown HB8.out hg9 HB8.out.size (fun k e => by cases e; exact HGD.out)); clear hb9 hg9))
            obtain ⟨e, q, hf, hk1, hk2⟩ := ok_one b i HN.out.2 HI4.out
            rw [HM.out] at hk1 hk2
            have HFE := Aside0.mk hf
            have HK1 := Aside0.mk hk1
            have HK2 := Aside0.mk hk2
            clear hf hk1 hk2
            refine start_ (n := 8) (S := fun w' => True) (ds := []) #[false, false, false, false, false, false, false, false] (by kernel_rfl) rfl rfl trivial (fun hHeld => ?_)
            refine with_tabW addr_tab49 addr_bits49 (fun HT_ HW_ => ?_)
            have HD10 := Aside0.mk (blk_drew HD9.out)
            have HH10 := Aside0.mk (blk_drew (blk_below HH.out HB9.out))
            have HB10 := Aside0.mk (below_drew1 HB9.out)
            clear HD HB8 HGD HD9 HB9
            generalize World.drew _ = W3 at HD10 HH10 HB10 hHeld ⊢
            refine inv_at [0, 1, 2, 3, 4, 5, 6, 7] (fun a0_ b_ a w' => ∃ (gL gF c1 : Nat) (A1 : Option Addr), a = putSel a0_ b_ [(0, 87, .slice (some ⟨gh, 0, none⟩) 1 1), (1, 88, .slice (some ⟨gh, 0, none⟩) 1 1), (2, 89, .agg (ccB (b : Int) i).toArray), (3, 90, .slice (some ⟨gL, 0, none⟩) 1 1), (4, 91, .slice A1 2 c1), (5, 92, .agg #[.int .i64 e, .int .i64 q]), (6, 14, .pointer (some ⟨gF, 0, none⟩))]
                ∧ Below W3.heap.size W3 w'
                ∧ (b_ 3 = true → b_ 4 = false → w'.heap[gL]? = some (.cells (ccB (b : Int) i).toArray 27 (0, 0)))
                ∧ (b_ 4 = true → b_ 5 = false → 2 ≤ c1 ∧ Kd.C k27 w' A1 2 [openB, cmdB (b : Int) i])
                ∧ (b_ 6 = true → b_ 7 = false → W3.heap.size ≤ gF ∧ w'.heap[gF]? = some (.cells #[.int .i64 0, .int .i64 0] 30 (0, 0)))
                ∧ (b_ 7 = true → w'.heap[gF]? = some (.cells #[.int .i64 e, .int .i64 q] 30 (0, 0)))) HT_.out HW_.out (by kernel_rfl) (by kernel_rfl) ?_ ?_ ?_
            · exact ⟨0, 0, 0, none, by simp only [putSel, Bool.false_eq_true, if_false], Below.refl _ _, (fun h => by cases h), (fun h => by cases h), (fun h => by cases h), (fun h => by cases h)⟩
            · skip
              refine steps_cons ?_ ?_
              · rintro b_ a w' ⟨gL, gF, c1, A1, ha, hB, h3, h4, h6, h7⟩ hb_ hon hoff
                refine ⟨_, rfl, fun K hK => ?_⟩
                have e10 : a.tmps[10]? = some (.slice (some ⟨gh, 0, none⟩) 1 1) := by rw [ha]; exact (putSel_off rfl).trans rfl
                replace ha := Aside0.mk ha
                refine value_ (w1 := w') (v := .slice (some ⟨gh, 0, none⟩) 1 1) (by rfl) rfl (by go_simp; try rfl) ?_
                exact hK.out _ _ ⟨gL, gF, c1, A1, by rw [ha.out]; exact putSel_upk 0 hb_ rfl rfl rfl, hB, h3, h4, h6, h7⟩
              refine steps_cons ?_ ?_
              · rintro b_ a w' ⟨gL, gF, c1, A1, ha, hB, h3, h4, h6, h7⟩ hb_ hon hoff
                refine ⟨_, rfl, fun K hK => ?_⟩
                have e87 : a.tmps[87]? = some (.slice (some ⟨gh, 0, none⟩) 1 1) := by rw [ha]; exact putSel_on (e := (0, 87, .slice (some ⟨gh, 0, none⟩) 1 1)) 0 rfl rfl (hon 0 (by kernel_rfl)) rfl
                replace ha := Aside0.mk ha
                refine value_ (w1 := w') (v := .slice (some ⟨gh, 0, none⟩) 1 1) (by rfl) rfl (by go_simp; try rfl) ?_
                exact hK.out _ _ ⟨gL, gF, c1, A1, by rw [ha.out]; exact putSel_upk 1 hb_ rfl rfl rfl, hB, h3, h4, h6, h7⟩
              refine steps_cons ?_ ?_
              · rintro b_ a w' ⟨gL, gF, c1, A1, ha, hB, h3, h4, h6, h7⟩ hb_ hon hoff
                refine ⟨_, rfl, fun K hK => ?_⟩
                have e13 : a.tmps[13]? = some (.pointer (some ⟨gd, 0, none⟩)) := by rw [ha]; exact (putSel_off rfl).trans rfl
                refine value_ (w1 := w') (v := .agg (ccB (b : Int) i).toArray) (by rfl) rfl (run_load_op 27 (.tmp 13) rfl ⟨gd, 0, none⟩ (by simp only [Act.eval, Array.getD_eq_getD_getElem?, e13, Option.getD_some]) _ _ (cells_blk (blk_below HD10.out hB)) Try.underlying27 rfl (by rw [ccB_len]; kernel_rfl)) ?_
                exact hK.out _ _ ⟨gL, gF, c1, A1, by rw [ha]; exact putSel_upk 2 hb_ rfl rfl rfl, hB, h3, h4, h6, h7⟩
              refine steps_cons ?_ ?_
              · rintro b_ a w' ⟨gL, gF, c1, A1, ha, hB, h3, h4, h6, h7⟩ hb_ hon hoff
                refine ⟨_, rfl, fun K hK => ?_⟩
                have e89 : a.tmps[89]? = some (.agg (ccB (b : Int) i).toArray) := by rw [ha]; exact putSel_on (e := (2, 89, .agg (ccB (b : Int) i).toArray)) 2 rfl rfl (hon 2 (by kernel_rfl)) rfl
                refine value_ (w1 := w'.alloc (.cells (ccB (b : Int) i).toArray 27 (0, 0))) (v := .slice (some ⟨w'.heap.size, 0, none⟩) 1 1) (by rfl) rfl (row1_op (b : Int) i HI4.out 89 rfl (by simp only [Act.eval, Array.getD_eq_getD_getElem?, e89, Option.getD_some])) ?_
                have hb1 : Below w'.heap.size w' (w'.alloc (.cells (ccB (b : Int) i).toArray 27 (0, 0))) := below_alloc (Below.refl _ _) _
                exact hK.out _ _ ⟨w'.heap.size, gF, c1, A1, by rw [ha]; exact putSel_upk 3 hb_ rfl rfl rfl, below_step hB hb1, fun _ _ => blk_new w' _, (fun h => absurd ((hoff 4 (by kernel_rfl)).symm.trans h) (by decide)), (fun h h' => ⟨(h6 h h').1, blk_below (h6 h h').2 hb1⟩), (fun h => blk_below (h7 h) hb1)⟩
              refine steps_cons ?_ ?_
              · rintro b_ a w' ⟨gL, gF, c1, A1, ha, hB, h3, h4, h6, h7⟩ hb_ hon hoff
                refine ⟨_, rfl, fun K hK => ?_⟩
                have e88 : a.tmps[88]? = some (.slice (some ⟨gh, 0, none⟩) 1 1) := by rw [ha]; exact putSel_on (e := (1, 88, .slice (some ⟨gh, 0, none⟩) 1 1)) 1 rfl rfl (hon 1 (by kernel_rfl)) rfl
                have e90 : a.tmps[90]? = some (.slice (some ⟨gL, 0, none⟩) 1 1) := by rw [ha]; exact putSel_on (e := (3, 90, .slice (some ⟨gL, 0, none⟩) 1 1)) 3 rfl rfl (hon 3 (by kernel_rfl)) rfl
                have hz := h3 (hon 3 (by kernel_rfl)) hb_
                obtain ⟨i0, hi0, hz0, hz1, hz2⟩ := info_parts infoC
                refine step_append_grows rfl (.tmp 88) (.tmp 90) 22 rfl 27 i0 _ 19 216 Try.underlying22 hi0 hz0 hz1 hz2 rfl (by decide) (some ⟨gh, 0, none⟩) 1 1 (cc zA zA false 123 ⟨#[]⟩) (by simp only [Act.eval, Array.getD_eq_getD_getElem?, e88, Option.getD_some]) (fun h => by cases h) rfl (fun b1 hb1 j u hj => by cases hb1; exact cells_blk (blk_below HH10.out hB) j u hj) ⟨gL, 0, none⟩ 1 1 (ccB (b : Int) i) (by simp only [Act.eval, Array.getD_eq_getD_getElem?, e90, Option.getD_some]) (by rw [ccB_len]) (fun j u hj => cells_blk hz j u hj) (fun u hu => List.all_eq_true.1 (ccB_one _ _) u hu) (by decide) (by decide) (by decide) ?_
                intro v1 w10 hown hgrow
                have hb1 : Below w'.heap.size w' w10 := (Below.refl _ _).grown hgrow (Nat.le_refl _) (fun k e => by cases e)
                obtain ⟨A2, c2, rfl, hc2, hC2⟩ := own_two (b : Int) i HI4.out hown
                exact hK.out _ _ ⟨gL, gF, c2, A2, by rw [ha]; exact putSel_upk 4 hb_ rfl rfl rfl, below_step hB hb1, (fun _ h => by cases h), (fun _ _ => ⟨hc2, hC2⟩), (fun h h' => ⟨(h6 h h').1, blk_below (h6 h h').2 hb1⟩), (fun h => blk_below (h7 h) hb1)⟩
              refine steps_cons ?_ ?_
              · rintro b_ a w' ⟨gL, gF, c1, A1, ha, hB, h3, h4, h6, h7⟩ hb_ hon hoff
                refine ⟨_, rfl, fun K hK => ?_⟩
                have e91 : a.tmps[91]? = some (.slice A1 2 c1) := by rw [ha]; exact putSel_on (e := (4, 91, .slice A1 2 c1)) 4 rfl rfl (hon 4 (by kernel_rfl)) rfl
                have hz := h4 (hon 4 (by kernel_rfl)) hb_
                refine goes_ Try.func18 (by kernel_rfl) rfl #[.slice A1 2 c1] (by rfl) rfl rfl (by simp only [List.map_toArray, List.map_cons, List.map_nil, Act.eval, Array.getD_eq_getD_getElem?, e91, Option.getD_some]) ?_
                refine (check_Check.calls A1 c1 [openB, cmdB (b : Int) i] e q _ hz.2 hz.1 HFE.out).mono ?_
                rintro e' w10 ⟨rfl, hb1⟩
                refine ⟨_, rfl, ?_⟩
                exact hK.out _ _ ⟨gL, gF, c1, A1, by rw [ha]; exact putSel_upk 5 hb_ rfl rfl rfl, below_step hB hb1, (fun h h' => blk_below (h3 h h') hb1), (fun _ h => by cases h), (fun h h' => ⟨(h6 h h').1, blk_below (h6 h h').2 hb1⟩), (fun h => blk_below (h7 h) hb1)⟩
              refine steps_cons ?_ ?_
              · rintro b_ a w' ⟨gL, gF, c1, A1, ha, hB, h3, h4, h6, h7⟩ hb_ hon hoff
                refine ⟨_, rfl, fun K hK => ?_⟩
                refine box_step ?hg (N := 14) ?hd (cs := #[.int .i64 0, .int .i64 0]) (t := 30) ?hr ?_; (case hd => rfl); (case hg => rfl); (case hr => first | (go_simp; done) | (go_simp; rfl))
                rintro gn rfl w10 hbox hb1
                exact hK.out _ _ ⟨gL, w'.heap.size, c1, A1, by rw [ha]; exact putSel_upk 6 hb_ rfl rfl rfl, below_step hB hb1, (fun h h' => blk_below (h3 h h') hb1), (fun h h' => ⟨(h4 h h').1, Kd.C_below (h4 h h').2 hb1⟩), (fun _ _ => ⟨hB.size, hbox⟩), (fun h => absurd ((hoff 7 (by kernel_rfl)).symm.trans h) (by decide))⟩
              refine steps_cons ?_ ?_
              · rintro b_ a w' ⟨gL, gF, c1, A1, ha, hB, h3, h4, h6, h7⟩ hb_ hon hoff
                refine ⟨_, rfl, fun K hK => ?_⟩
                have e14 : a.tmps[14]? = some (.pointer (some ⟨gF, 0, none⟩)) := by rw [ha]; exact putSel_on (e := (6, 14, .pointer (some ⟨gF, 0, none⟩))) 6 rfl rfl (hon 6 (by kernel_rfl)) rfl
                have e92 : a.tmps[92]? = some (.agg #[.int .i64 e, .int .i64 q]) := by rw [ha]; exact putSel_on (e := (5, 92, .agg #[.int .i64 e, .int .i64 q])) 5 rfl rfl (hon 5 (by kernel_rfl)) rfl
                have hz := h6 (hon 6 (by kernel_rfl)) hb_
                refine skip_ (by rfl) rfl (store_seg 30 (.tmp 14) (.tmp 92) rfl gF 0 [.int .i64 e, .int .i64 q] (by simp only [Act.eval, Array.getD_eq_getD_getElem?, e14, Option.getD_some]) (by simp only [Act.eval, Array.getD_eq_getD_getElem?, e92, Option.getD_some]) 30 [.int .i64 0, .int .i64 0] [.int .i64 e, .int .i64 q] hz.2 (by kernel_rfl) (show 0 + 2 ≤ 2 from by decide) rfl rfl) ?_
                exact hK.out _ _ ⟨gL, gF, c1, A1, by rw [ha]; exact (putSel_same rfl).symm, hB.grown (setRow_grown hz.2) hB.size (fun k e => by cases e; exact hz.1), (fun _ h => absurd ((hon 4 (by kernel_rfl)).symm.trans h) (by decide)), (fun _ h => absurd ((hon 5 (by kernel_rfl)).symm.trans h) (by decide)), (fun _ h => by cases h), (fun _ => setRow_heap _ _ _ _ _ _ hz.2)⟩
              exact steps_nil
            · rintro b_ a w' hall ⟨gL, gF, c1, A1, ha, hB, h3, h4, h6, h7⟩
              have hb0_ := hall 0 (by kernel_rfl)
              have hb1_ := hall 1 (by kernel_rfl)
              have hb2_ := hall 2 (by kernel_rfl)
              have hb3_ := hall 3 (by kernel_rfl)
              have hb4_ := hall 4 (by kernel_rfl)
              have hb5_ := hall 5 (by kernel_rfl)
              have hb6_ := hall 6 (by kernel_rfl)
              subst ha
              simp only [putSel, hb0_, hb1_, hb2_, hb3_, hb4_, hb5_, hb6_, if_true, Act.put, List.setIfInBounds_toArray, List.set_cons_zero, List.set_cons_succ]
              have hz := h7 (hall 7 (by kernel_rfl))
              have hc0 : w'.cell? ⟨gF, 0, none⟩ = some (.int .i64 e) := (blk_cell hz 0).trans rfl
              have HB11 := Aside0.mk (below_step HB10.out hB)
              have HF11 := Aside0.mk (blk_below HF.out HB11.out)
              have hfi : w'.cell? ⟨gf, i, none⟩ = some (.bool (fitB m i)) := by
                rw [blk_cell HF11.out i]
                have h := HI4.out
                rcases (by omega : i = 0 ∨ i = 1 ∨ i = 2 ∨ i = 3) with rfl | rfl | rfl | rfl <;> rfl
              clear hall hB h3 h4 h6 h7 hz hHeld HT_ HW_ HD10 HH10 HB10 hb0_ hb1_ hb2_ hb3_ hb4_ hb5_ hb6_
              have HE0 := Aside0.mk hc0
              clear hc0
              obtain ⟨f17, f18, h17, h18, hm0, hfit⟩ : ∃ f17 f18 : Bool, (e == 17) = f17 ∧ (e == 18) = f18 ∧ decide (m < 0) = f18 ∧ fitB m i = !(f17 || f18) := by
                have h1 := HK1.out
                have h2 := HK2.out
                refine ⟨_, _, rfl, rfl, ?_, ?_⟩
                · revert h2; generalize decide (m < 0) = x; generalize (e == 18) = y; cases x <;> cases y <;> decide
                · revert h1; generalize fitB m i = x; generalize (e == 17) = z; generalize (e == 18) = y; cases x <;> cases y <;> cases z <;> decide
              have hc0 := HE0.out
              rw [hfit] at hfi
              have hir : IntKind.i64.wrap ((i : Int) + 1) = ((i + 1 : Nat) : Int) := by
                have h := HI4.out
                rw [i64_w, wrap_id (by omega) (by omega)]
                omega
              cases f17 <;> cases f18
              all_goals
                first
                | (have hfj : w'.cell? ⟨gf, i, none⟩ = some (.bool false) := hfi)
                | (have hfj : w'.cell? ⟨gf, i, none⟩ = some (.bool true) := hfi)
                clear hfi hfit
                go_wp2
                go_roundg gi
                case rel => exact ⟨i + 1, rfl, by have := HNI.out; omega, HB11⟩
                case measure => omega

end Go.Proofs.Ytdlbmajilmmapaa.F
