/- Texts of this claim, 5 of 29: BreRange. -/
import Derived.RangeFuncNested
import Derived.RangeFuncBound
import Derived.RangeFuncCalls
import Derived.RangeFuncLeaves
import Derived.Shelf.Abstract
import Derived.WalkKit
import Derived.TacticsInMore
section
namespace Go.Proofs.Ytcmipoicnonaeaa.F
open Go.RowKit
set_option linter.unusedVariables false
set_option linter.unusedSimpArgs false
variable {P : Program} {α : Type}
def toldPost (Kp : World → World → Prop) (I Ix : List α → World → Prop) (xs : List α) (W : World) : Exit → Act → World → Prop
  | .normal, _, W' => KeepsOthers W W' ∧ Kp W W' ∧ I xs W'
  | .ret, _, W' => KeepsOthers W W' ∧ Ix xs W'
  | _, _, _ => False
def Turns (B : Nat) (I : World → Prop) : Prop := ∀ (W : World) (l : Nat) (o o' : Obj), B ≤ l → W.heap[l]? = some o → o.isCells = false → I W → I (W.putObj l o')
theorem range_told {g : Operand} {ps : Array Tmp} {assign body : Code} {Q : Exit → Act → World → Prop} {a : Act} {w : World} {n : Nat} (L : List α) (encs : α → Array Value) (Kp : World → World → Prop) {gf : Nat} {lb : Array Value}
    (hg : a.eval g = .func (.func gf) #[] lb) (eg : ∀ args w, (callFunc gf args).run P w = .ok (.enter gf args) w) (hps : ∀ x, (encs x).size = ps.size)
    (hKt : ∀ {A B C : World}, Kp A B → Kp B C → Kp A C) (hKb : ∀ (W : World) (l : Nat) (o o' : Obj), W.heap[l]? = some o → o.isCells = false → Kp W (W.putObj l o'))
    (I Ix : List α → World → Prop) (A : List α → α → Act → World → Prop)
    (hIa : ∀ pre W W', I pre W → Below W.heap.size W W' → I pre W')
    (hIp : ∀ pre, Turns w.heap.size (I pre)) (hIxp : ∀ pre, Turns w.heap.size (Ix pre)) (hAp : ∀ pre x a', Turns w.heap.size (A pre x a'))
    (hseq : ∀ (l : Nat) (J Jx : List α → World → Prop) (W : World), (∀ pre W, J pre W → I pre W) → (∀ pre W W', J pre W → Below W.heap.size W W' → J pre W') →
      (∀ pre x W, pre ++ [x] <+: L → J pre W → YieldAt Fence.wide (n - 1 - 1) P l (encs x) W fun e W' => (e = .returned (.bool true) ∧ J (pre ++ [x]) W' ∧ Kp W W') ∨ (e = .returned (.bool false) ∧ Jx (pre ++ [x]) W')) →
      J [] W → CallsIn Fence.wide (n - 1) P gf (#[.func (.yield l) #[] #[]] ++ lb) W fun e W' => (∃ v, e = .returned v) ∧ (J L W' ∨ ∃ pre, pre <+: L ∧ Jx pre W'))
    (h0 : I [] w)
    (hassign : ∀ (l : Nat) (pre : List α) (x : α) (W : World) (K : Act → World → Prop), pre ++ [x] <+: L → I pre W → (∀ a' W', KeepsOthers W W' → Kp W W' → A pre x a' W' → K a' W') →
      assign.wpIn (Fence.wide.inRound l) (n - 1 - 1) P (Exit.then K (fun _ _ _ => False)) { tmps := (ps.zip (encs x)).foldl (fun t (p, v) => t.setIfInBounds p v) a.tmps, defers := [] } W)
    (hbody : ∀ (l : Nat) (pre : List α) (x : α) (a' : Act) (W : World), pre ++ [x] <+: L → A pre x a' W → body.wpIn (Fence.wide.inRound l) (n - 1 - 1) P (toldPost Kp I Ix (pre ++ [x]) W) a' W)
    (hdone : ∀ (D : Nat) (W : World), w.heap.size ≤ D → I L W → W.heap[D]? = some (.deferred (some [])) → Q .normal { a with defers := { target := .collected D, args := #[] } :: a.defers } W)
    (hstop : ∀ (D : Nat) (pre : List α) (W : World), w.heap.size ≤ D → pre <+: L → Ix pre W → W.heap[D]? = some (.deferred (some [])) → Code.ret.wpIn Fence.wide n P Q { a with defers := { target := .collected D, args := #[] } :: a.defers } W) :
    (Code.rangeFunc g ps assign body).wpIn Fence.wide n P Q a w := by
  refine wpIn_rangeFunc fun fn hfn => ?_
  let R : LoopState → Option Code → Obj := fun st pe => .loop { state := st, pending := pe, fn, tmps := a.tmps, params := ps, assign, body, defers := w.heap.size }
  let D := w.heap.size
  let W1 := (w.alloc (.deferred (some []))).alloc (R .ready none)
  have hb1 : Below w.heap.size w W1 := ((Below.refl _ w).alloc (Nat.le_refl _) _).alloc (by simp) _
  have hl1 : W1.heap[D + 1]? = some (R .ready none) := by
    have := World.alloc_heap_new (w.alloc (.deferred (some []))) (R .ready none)
    rwa [World.size_alloc] at this
  have hd1 : W1.heap[D]? = some (.deferred (some [])) := (Below.heap_alloc _ _ _ (by simp [D])).trans (World.alloc_heap_new w _)
  refine ⟨D + 1, [{ target := .collected D, args := #[] }], W1, { target := .fn (.func gf) lb, args := #[.func (.yield (D + 1)) #[] #[]] }, W1, gf, #[.func (.yield (D + 1)) #[] #[]] ++ lb, W1, run_enterLoop_outer _ _ _ _ _, ?_, ?_, ?_, fun h => by simp [Fence.wide] at h, ?_⟩
  · simp only [resolve, hg]
    simp [go_sem]
  · intro f' _
    exact trivial
  · simp [invoke, go_sem, eg]
  · let J : List α → World → Prop := fun pre W => I pre W ∧ W.heap[D + 1]? = some (R .ready none) ∧ W.heap[D]? = some (.deferred (some []))
    let Jx : List α → World → Prop := fun pre W => Ix pre W ∧ W.heap[D + 1]? = some (R .done (some .ret)) ∧ W.heap[D]? = some (.deferred (some []))
    refine (hseq (D + 1) J Jx W1 (fun pre W h => h.1) ?_ ?_ ⟨hIa _ _ _ h0 hb1, hl1, hd1⟩).mono ?_
    · rintro pre W W' ⟨h1, h2, h3⟩ hb
      exact ⟨hIa _ _ _ h1 hb, (hb.block _ (Array.getElem?_eq_some_iff.1 h2).1).trans h2, (hb.block _ (Array.getElem?_eq_some_iff.1 h3).1).trans h3⟩
    ·
      rintro pre x W hpx ⟨hi, hl, hk⟩
      refine ⟨fn, _, assign, body, run_yield hl (hps x), roundIn_of_wpIn hfn (hassign _ pre x W _ hpx hi fun a' Wa hko hkp hA => ?_)⟩
      have hla := hko.same _ _ hl rfl
      have hka := hko.same _ _ hk rfl
      have hlt := (Array.getElem?_eq_some_iff.1 hla).1
      refine ⟨_, run_beginRound hla rfl, ?_⟩
      let W2 := Wa.putObj (D + 1) (R .busy none)
      have hl2 : W2.heap[D + 1]? = some (R .busy none) := World.putObj_heap_same hlt
      have hk2 : W2.heap[D]? = some (.deferred (some [])) := (World.putObj_heap_other (by omega)).trans hka
      have hkp2 : Kp W W2 := hKt hkp (hKb Wa _ _ _ hla rfl)
      refine wpIn_mono (hbody (D + 1) pre x a' W2 hpx (hAp pre x a' Wa _ _ _ (Nat.le_succ _) hla rfl hA)) ?_
      have fin : ∀ (jump : Option Code) (W3 : World), KeepsOthers W2 W3 → ∀ X : World → Prop, Turns w.heap.size X → X W3 →
          (Instr.endRound (D + 1) jump).run P W3 = .ok (.bool jump.isNone) (W3.putObj (D + 1) (R (if jump.isNone then .ready else .done) jump)) ∧ X (W3.putObj (D + 1) (R (if jump.isNone then .ready else .done) jump)) ∧
          Kp W3 (W3.putObj (D + 1) (R (if jump.isNone then .ready else .done) jump)) ∧
          (W3.putObj (D + 1) (R (if jump.isNone then .ready else .done) jump)).heap[D + 1]? = some (R (if jump.isNone then .ready else .done) jump) ∧
          (W3.putObj (D + 1) (R (if jump.isNone then .ready else .done) jump)).heap[D]? = some (.deferred (some [])) := fun jump W3 hk3 X hX h => by
        have hl3 := hk3.same _ _ hl2 rfl
        exact ⟨run_endRound jump hl3, hX _ _ _ _ (Nat.le_succ _) hl3 rfl h, hKb _ _ _ _ hl3 rfl, World.putObj_heap_same (Array.getElem?_eq_some_iff.1 hl3).1, (World.putObj_heap_other (by omega)).trans (hk3.same _ _ hk2 rfl)⟩
      rintro e a3 W3 hp
      match e, hp with
      | .normal, ⟨hk3, hkp3, hi3⟩ =>
        obtain ⟨hr, hx, hkq, hl4, hk4⟩ := fin none W3 hk3 _ (hIp _) hi3
        exact ⟨_, _, hr, .inl ⟨rfl, ⟨hx, hl4, hk4⟩, hKt hkp2 (hKt hkp3 hkq)⟩⟩
      | .ret, ⟨hk3, hi3⟩ =>
        obtain ⟨hr, hx, hkq, hl4, hk4⟩ := fin (some .ret) W3 hk3 _ (hIxp _) hi3
        exact ⟨_, _, hr, .inr ⟨rfl, hx, hl4, hk4⟩⟩
    · rintro e W2 ⟨⟨v, rfl⟩, (⟨hi, hl, hk⟩ | ⟨pre, hpre, hi, hl, hk⟩)⟩
      · exact ⟨none, _, run_endLoop hl (by simp), hdone D _ (Nat.le_refl _) (hIp _ _ _ _ _ (Nat.le_succ _) hl rfl hi) ((World.putObj_heap_other (by omega)).trans hk)⟩
      · exact ⟨some .ret, _, run_endLoop hl (by simp), hstop D pre _ (Nat.le_refl _) hpre (hIxp _ _ _ _ _ (Nat.le_succ _) hl rfl hi) ((World.putObj_heap_other (by omega)).trans hk)⟩
end Go.Proofs.Ytcmipoicnonaeaa.F
end
