/- Texts of this claim, 7 of 29: Loads, Loads2, BreSt, BrePut, BreRep, F51, Sets, F77, F67, F53, F72. -/
import Derived.Deep.MidRow
import Derived.Test.YtcmipoicnonaeaaKS4
import Derived.Test.YtcmipoicnonaeaaKS6
section
namespace Go.Proofs.Ytcmipoicnonaeaa.F
open Go.RowKit Go.Proofs.YtcmipoicnonaeaaW.PrintWords
theorem qik {P : Program} (w : World) (ad : Addr) (ty : TypeId) (cs : List Value) (d : TypeDesc) (hc : ∀ (j : Nat) (v : Value), cs[j]? = some v → w.cell? (ad.add j) = some v)
    (hu : P.underlying ty = some d) (hd : d.isRow = true) (hi : (P.info? ty).map (·.size) = some cs.length) : (loadVar ty ad).run P w = .ok (.agg cs.toArray) w := by
  have hl : (loadCells ad cs.length).run P w = .ok cs.toArray w := run_loadCells_list (P := P) w ad cs hc
  cases hq : P.info? ty with
  | none => simp [hq] at hi
  | some i =>
    have hs : i.size = cs.length := by simpa [hq] using hi
    have hagg : (isAgg ty).run P w = .ok true w := by
      unfold isAgg
      rw [Sem.run_bind, run_underlying hu w]
      cases d <;> simp_all
    simp [loadVar, Sem.run_bind, hagg, sizeOf, typeInfo, hq, hs, hl]
theorem setRow_grown {w : World} {g t : Nat} {old cells : Array Value} (_hg : w.heap[g]? = some (.cells old t (0, 0))) : w.grownBy (w.setRow g cells) (some g) := by
  refine ⟨rfl, rfl, rfl, ?_, fun i hi hne => ?_⟩
  · unfold World.setRow
    simp
  · unfold World.setRow
    have : g ≠ i := fun e => hne (by rw [e])
    simp [Array.getElem?_modify, this]
theorem store_whole {P : Program} {ops : Array Oper} {rest : List Oper} {o : Oper} {a : Act} {w : World} {Q : Exit → Act → World → Prop} (hgd : o.guard = none) (hdst : o.dst = none) (ty : TypeId) (x y : Operand) (ho : o.op = .store ty x y)
    (g : Nat) (cells : Array Value) (hx : a.eval x = .pointer (some ⟨g, 0, none⟩)) (hy : a.eval y = .agg cells)
    (t : TypeId) (old : Array Value) (hg : w.heap[g]? = some (.cells old t (0, 0))) (hi : (P.info? ty).map (·.size) = some cells.size)
    (hold : old.size = cells.size) (h1 : cells.all (·.oneCell') = true)
    (h : ∀ w1, w1.heap[g]? = some (.cells cells t (0, 0)) → w.grownBy w1 (some g) → wpList P ops Q rest a w1) : wpList P ops Q (o :: rest) a w := by
  refine wpList_store_row hgd ty x y ho g cells hx hy t old hg hi hold h1 ?_
  rw [hdst]
  exact h _ (setRow_heap w g old cells t (0, 0) hg) (setRow_grown hg)
end Go.Proofs.Ytcmipoicnonaeaa.F
end
section
namespace Go.Proofs.Ytcmipoicnonaeaa.F
open Go.RowKit Go.Proofs.YtcmipoicnonaeaaW.PrintWords
theorem qez {P : Program} {a : Act} {w : World} {o : Oper} (ty : TypeId) (x : Operand) (ho : o.op = .load ty x) (ad : Addr) (hx : a.eval x = .pointer (some ad)) (cs : List Value) (d : TypeDesc) (hc : ∀ (j : Nat) (v : Value), cs[j]? = some v → w.cell? (ad.add j) = some v)
    (hu : P.underlying ty = some d) (hd : d.isRow = true) (hi : (P.info? ty).map (·.size) = some cs.length) : (execOp a.eval o).run P w = .ok (.value (.agg cs.toArray)) w := by
  unfold execOp
  simp only [ho, hx, Instr.loadAt, Instr.sureAddr, Sem.run_bind, Sem.run_pure, Result.andThen_ok, qik w ad ty cs d hc hu hd hi]
end Go.Proofs.Ytcmipoicnonaeaa.F
end
section
namespace Go.Proofs.Ytcmipoicnonaeaa.F
open Go.RowKit Go.Proofs.YtcmipoicnonaeaaW.PrintWords Go.Proofs.YtcmipoicnonaeaaW.PrintLast Go.Proofs.YtcmipoicnonaeaaW.PrintMore
set_option linter.unusedVariables false
set_option linter.unusedSimpArgs false
structure RF where
 v0 : Value
 v1 : Value
 g : Int
 a : Int
def isSl (v : Value) : Prop := ∃ A n c, v = .slice A n c
theorem isSl_one {v : Value} (h : isSl v) : v.oneCell' = true := by
 obtain ⟨_, _, _, rfl⟩ := h
 rfl
def RFc (x : RF) : List Value := [x.v0, x.v1, .int .i64 x.g, .int .i64 x.a]
def kRF : Kd RF where
 sz := 4
 E := []
 K := fun _ x cs => cs = RFc x ∧ isSl x.v0 ∧ isSl x.v1
 M := fun _ _ _ x cs => cs = RFc x ∧ isSl x.v0 ∧ isSl x.v1
 K_len := by
  rintro w x cs ⟨rfl, _, _⟩
  rfl
 K_one := by
  rintro w x cs ⟨rfl, h0, h1⟩ u hu
  simp only [RFc, List.mem_cons, List.not_mem_nil, or_false] at hu
  rcases hu with rfl | rfl | rfl | rfl
  ·exact isSl_one h0
  ·exact isSl_one h1
  ·rfl
  ·rfl
 K_below := fun _ h => h
 K_of_M := fun h => h
 M_mono := fun _ h => h
 M_bound := fun h => h
 M_move := fun _ h => h
 M_lower := fun _ h => h
def Stack (base : Nat) (W : World) : List RF → List S59 → (Nat → Prop) → Prop
 | [], [], _ => True
 | r :: rs, f :: fs, ok => r.g = f.f2 ∧ r.a = f.f3 ∧ ∃ oA oB : Nat → Prop, (∀ k, oA k → ok k) ∧ (∀ k, oB k → ok k) ∧ (∀ k, oA k → oB k → False) ∧ k27.R 27 W base oA r.v0 f.f0 ∧ (Kd.int .i64).R 3 W base oA r.v1 f.f1 ∧ Stack base W rs fs oB
 | _, _, _ => False
theorem Stack.step {base : Nat} {W W1 : World} : ∀ {rs : List RF} {fs : List S59} {ok : Nat → Prop}, Stack base W rs fs ok → (∀ k, ok k → k < W.heap.size → W1.heap[k]? = W.heap[k]?) → Stack base W1 rs fs ok
 | [], [], _, _, _ => trivial
 | r :: rs, f :: fs, ok, ⟨hg, ha, oA, oB, h1, h2, h3, h4, h5, h6⟩, hm => ⟨hg, ha, oA, oB, h1, h2, h3, Kd.qh8 h4 (fun k hk => hm k (h1 k hk)), Kd.qh8 h5 (fun k hk => hm k (h1 k hk)), h6.step (fun k hk => hm k (h2 k hk))⟩
 | [], _ :: _, _, h, _ => h.elim
 | _ :: _, [], _, h, _ => h.elim
theorem Stack.mono {base : Nat} {W : World} {rs : List RF} {fs : List S59} {ok ok' : Nat → Prop} (h : Stack base W rs fs ok) (hk : ∀ k, ok k → ok' k) : Stack base W rs fs ok' := by
 match rs, fs, h with
 | [], [], _ => exact trivial
 | r :: rs, f :: fs, ⟨hg, ha, oA, oB, h1, h2, h3, h4, h5, h6⟩ => exact ⟨hg, ha, oA, oB, fun k q => hk k (h1 k q), fun k q => hk k (h2 k q), h3, h4, h5, h6⟩
 | [], _ :: _, h => exact h.elim
 | _ :: _, [], h => exact h.elim
def Bd (W : World) (k : Nat) : Prop := k < W.heap.size ∧ ∃ q, (q = 27 ∨ q = 3) ∧ ∃ cells, W.heap[k]? = some (.cells cells q (0, 0))
theorem Re_E : ∀ q ∈ 27 :: k27.E, q = 27 ∨ q = 3 := by
 intro q hq
 have : q ∈ [27, 27] := hq
 simp only [List.mem_cons, List.not_mem_nil, or_false, or_self] at this
 exact .inl this
theorem R_bd {base : Nat} {W : World} {ok : Nat → Prop} {v : Value} {xs : List S27} (h : k27.R 27 W base ok v xs) : k27.R 27 W base (fun k => ok k ∧ Bd W k) v xs :=
 Kd.qbd (Kd.qdc h) (fun k ⟨h1, h2, h3, q, hq, hc⟩ => ⟨h1, h3, q, Re_E q hq, hc⟩)
theorem I_bd {base : Nat} {W : World} {ok : Nat → Prop} {v : Value} {xs : List Int} (h : (Kd.int .i64).R 3 W base ok v xs) : (Kd.int .i64).R 3 W base (fun k => ok k ∧ Bd W k) v xs :=
 Kd.qbd (Kd.qdc h) (fun k ⟨h1, h2, h3, q, hq, hc⟩ => ⟨h1, h3, q, by
  have : q ∈ [3] := hq
  exact .inr (List.mem_singleton.1 this), hc⟩)
theorem Stack.bd {base : Nat} {W : World} : ∀ {rs : List RF} {fs : List S59} {ok : Nat → Prop}, Stack base W rs fs ok → Stack base W rs fs (fun k => ok k ∧ Bd W k)
 | [], [], _, _ => trivial
 | r :: rs, f :: fs, ok, ⟨hg, ha, oA, oB, h1, h2, h3, h4, h5, h6⟩ => ⟨hg, ha, fun k => oA k ∧ Bd W k, fun k => oB k ∧ Bd W k, fun k q => ⟨h1 k q.1, q.2⟩, fun k q => ⟨h2 k q.1, q.2⟩, fun k q p => h3 k q.1 p.1, R_bd h4, I_bd h5, h6.bd⟩
 | [], _ :: _, _, h => h.elim
 | _ :: _, [], _, h => h.elim
theorem Stack.len {base : Nat} {W : World} : ∀ {rs : List RF} {fs : List S59} {ok : Nat → Prop}, Stack base W rs fs ok → rs.length = fs.length
 | [], [], _, _ => rfl
 | r :: rs, f :: fs, ok, ⟨_, _, _, _, _, _, _, _, _, h⟩ => by rw [List.length_cons, List.length_cons, h.len]
 | [], _ :: _, _, h => h.elim
 | _ :: _, [], _, h => h.elim
structure PS where
 fs : List S59
 gr : Int
 sh : List Bool
 sz : Int
def Pc (v : Value) (p : PS) : List Value := v :: .int .i64 p.gr :: (p.sh.map Value.bool ++ [.int .i64 p.sz])
def IsP (base : Nat) (W : World) (g : Nat) (p : PS) : Prop :=
 p.sh.length = 10 ∧ base ≤ g ∧ base ≤ W.heap.size ∧ ∃ v rs ok, W.heap[g]? = some (.cells (Pc v p).toArray 62 (0, 0)) ∧ kRF.R 59 W base (fun _ => True) v rs.reverse ∧ Stack base W rs p.fs ok
def IsPo (base : Nat) (W : World) (g : Nat) (ok : Nat → Prop) (p : PS) : Prop :=
 p.sh.length = 10 ∧ base ≤ g ∧ base ≤ W.heap.size ∧ ∃ v rs, W.heap[g]? = some (.cells (Pc v p).toArray 62 (0, 0)) ∧ kRF.R 59 W base (fun _ => True) v rs.reverse ∧ Stack base W rs p.fs ok
theorem IsP.o {base : Nat} {W : World} {g : Nat} {p : PS} (h : IsP base W g p) : ∃ ok, IsPo base W g ok p := by
 obtain ⟨h0, h1, h2, v, rs, ok, h3⟩ := h
 exact ⟨ok, h0, h1, h2, v, rs, h3⟩
theorem IsPo.p {base : Nat} {W : World} {g : Nat} {ok : Nat → Prop} {p : PS} (h : IsPo base W g ok p) : IsP base W g p := by
 obtain ⟨h0, h1, h2, v, rs, h3⟩ := h
 exact ⟨h0, h1, h2, v, rs, ok, h3⟩
theorem qee {l : List Bool} (h : l.length = 10) : ∃ b0 b1 b2 b3 b4 b5 b6 b7 b8 b9, l = [b0, b1, b2, b3, b4, b5, b6, b7, b8, b9] := by
 match l, h with
 | [b0, b1, b2, b3, b4, b5, b6, b7, b8, b9], _ => exact ⟨_, _, _, _, _, _, _, _, _, _, rfl⟩
theorem IsP.cells {base : Nat} {W : World} {g : Nat} {p : PS} (h : IsP base W g p) : base ≤ g ∧ W.cell? ⟨g, 1, none⟩ = some (.int .i64 p.gr) ∧ W.cell? ⟨g, 12, none⟩ = some (.int .i64 p.sz) ∧ (∀ i, i < 10 → W.cell? ⟨g, 2 + i, none⟩ = some (.bool (p.sh.getD i false))) ∧ ∀ j, W.frozen? ⟨g, j, none⟩ = false := by
 obtain ⟨hl, hb, _, v, rs, ok, hg, hR, hS⟩ := h
 obtain ⟨b0, b1, b2, b3, b4, b5, b6, b7, b8, b9, e⟩ := qee hl
 unfold Pc at hg
 rw [e] at hg ⊢
 refine ⟨hb, (qa2 hg 1).trans rfl, (qa2 hg 12).trans rfl, fun i hi => ?_, qa1 hg⟩
 rcases (by omega : i = 0 ∨ i = 1 ∨ i = 2 ∨ i = 3 ∨ i = 4 ∨ i = 5 ∨ i = 6 ∨ i = 7 ∨ i = 8 ∨ i = 9) with rfl | rfl | rfl | rfl | rfl | rfl | rfl | rfl | rfl | rfl
 all_goals exact (qa2 hg _).trans rfl
theorem IsP.below {base : Nat} {W W1 : World} {g : Nat} {p : PS} (h : IsP base W g p) (hb : Below W.heap.size W W1) : IsP base W1 g p := by
 obtain ⟨hl, h1, h2, v, rs, ok, hg, hR, hS⟩ := h
 exact ⟨hl, h1, Nat.le_trans h2 hb.size, v, rs, ok, qae hg hb, Kd.qbg hR hb, hS.step (fun k _ hk => hb.block k hk)⟩
theorem IsP.set {base : Nat} {W : World} {g : Nat} {p p' : PS} (h : IsP base W g p) (j : Nat) (u : Value) (hp : p'.fs = p.fs) (hl' : p'.sh.length = 10) (he : ∀ v, ((Pc v p).toArray.setIfInBounds j u) = (Pc v p').toArray) : IsP base (W.setCell ⟨g, j, none⟩ u) g p' := by
 obtain ⟨hl, h1, h2, v, rs, ok, hg, hR, hS⟩ := h
 have hst : Stack base (W.setCell ⟨g, j, none⟩ u) rs p.fs (fun k => ok k ∧ Bd W k) := by
  refine hS.bd.step ?_
  rintro k ⟨_, _, q, hq, cells, hc⟩ _
  refine Below.heap_setCell W ⟨g, j, none⟩ u k ?_
  rintro rfl
  rw [hg] at hc
  injection hc with hc
  injection hc with _ hc _
  rcases hq with rfl | rfl <;> cases hc
 refine ⟨hl', h1, by simpa [World.setCell] using h2, v, rs, _, qaa hg j u (he v), Kd.qbd (Kd.qge hR hg ?_ j u) (fun _ _ => trivial), by rw [hp]; exact hst⟩
 intro q hq
 have : q ∈ [59] := hq
 rw [List.mem_singleton.1 this]
 decide
theorem Pc_sz (v : Value) (p : PS) (h : p.sh.length = 10) (n : Int) : ((Pc v p).toArray.setIfInBounds 12 (.int .i64 n)) = (Pc v { p with sz := n }).toArray := by
 obtain ⟨b0, b1, b2, b3, b4, b5, b6, b7, b8, b9, e⟩ := qee h
 unfold Pc
 rw [e]
 rfl
theorem Pc_gr (v : Value) (p : PS) (n : Int) : ((Pc v p).toArray.setIfInBounds 1 (.int .i64 n)) = (Pc v { p with gr := n }).toArray := rfl
theorem Pc_sh (v : Value) (p : PS) (h : p.sh.length = 10) (i : Nat) (hi : i < 10) (b : Bool) : ((Pc v p).toArray.setIfInBounds (2 + i) (.bool b)) = (Pc v { p with sh := p.sh.set i b }).toArray := by
 obtain ⟨b0, b1, b2, b3, b4, b5, b6, b7, b8, b9, e⟩ := qee h
 unfold Pc
 rw [e]
 rcases (by omega : i = 0 ∨ i = 1 ∨ i = 2 ∨ i = 3 ∨ i = 4 ∨ i = 5 ∨ i = 6 ∨ i = 7 ∨ i = 8 ∨ i = 9) with rfl | rfl | rfl | rfl | rfl | rfl | rfl | rfl | rfl | rfl
 all_goals rfl
theorem IsPo.below {base : Nat} {W W1 : World} {g : Nat} {ok : Nat → Prop} {p : PS} (h : IsPo base W g ok p) (hb : Below W.heap.size W W1) : IsPo base W1 g ok p := by
 obtain ⟨hl, h1, h2, v, rs, hg, hR, hS⟩ := h
 exact ⟨hl, h1, Nat.le_trans h2 hb.size, v, rs, qae hg hb, Kd.qbg hR hb, hS.step (fun k _ hk => hb.block k hk)⟩
def Frn (o : Obj) : Prop := ∀ (c : Array Value) (t : Nat), o = .cells c t (0, 0) → t ≠ 27 ∧ t ≠ 3 ∧ t ≠ 59 ∧ t ≠ 62
theorem Frn.re {o : Obj} (h : Frn o) : ∀ c, o ≠ .cells c 27 (0, 0) := fun c e => (h c _ e).1 rfl
theorem Frn.int {o : Obj} (h : Frn o) : ∀ c, o ≠ .cells c 3 (0, 0) := fun c e => (h c _ e).2.1 rfl
theorem Frn.frame {o : Obj} (h : Frn o) : ∀ c, o ≠ .cells c 59 (0, 0) := fun c e => (h c _ e).2.2.1 rfl
theorem Frn.parser {o : Obj} (h : Frn o) : ∀ c, o ≠ .cells c 62 (0, 0) := fun c e => (h c _ e).2.2.2 rfl
def qej (W W' : World) : Prop := ∀ (k : Nat) (o : Obj), Frn o → W.heap[k]? = some o → W'.heap[k]? = some o
theorem qej.of_below {W W' : World} (hb : Below W.heap.size W W') : qej W W' := fun _ _ _ h => qae h hb
theorem qej.trans {A B C : World} (h : qej A B) (k : qej B C) : qej A C := fun i o h1 h2 => k i o h1 (h i o h1 h2)
theorem qej.cells {A B : World} (h : qej A B) {k t : Nat} {c : Array Value} (h1 : t ≠ 27) (h2 : t ≠ 3) (h3 : t ≠ 59) (h4 : t ≠ 62) (hk : A.heap[k]? = some (.cells c t (0, 0))) : B.heap[k]? = some (.cells c t (0, 0)) :=
 h k _ (fun c' t' e => by injection e with _ e _; subst e; exact ⟨h1, h2, h3, h4⟩) hk
theorem qg5 {W : World} {k F : Nat} {o : Obj} {c : Array Value} {t : Nat} (hk : W.heap[k]? = some o) (hF : W.heap[F]? = some (.cells c t (0, 0))) (hne : ∀ c, o ≠ .cells c t (0, 0)) : k ≠ F := by
 rintro rfl
 rw [hF] at hk
 cases hk
 exact hne _ rfl
theorem qg3 {α : Type} {d : Kd α} {e base : Nat} {W : World} {ok : Nat → Prop} {v : Value} {xs : List α} (h : d.R e W base ok v xs) {k : Nat} {o : Obj} (hk : W.heap[k]? = some o) (hne : ∀ c, o ≠ .cells c e (0, 0)) : some k ≠ v.ownBlock := by
 obtain ⟨h0, inner, ho, hr⟩ := h
 rcases ho.2 with ⟨rfl, h1⟩ | ⟨F, c, cur, rfl, hb, hh, _⟩
 ·simp [Value.ownBlock]
 ·intro he
  have : k = F := by simpa [Value.ownBlock] using he
  exact qg5 hk hh hne this
def Bel (base : Nat) (W W' : World) : Prop := Below base W W' ∧ qej W W'
theorem Bel.trans {base : Nat} {A B C : World} (h : Bel base A B) (k : Bel base B C) : Bel base A C := ⟨h.1.trans k.1, h.2.trans k.2⟩
theorem Bel.refl (base : Nat) (W : World) : Bel base W W := ⟨Below.refl _ _, fun _ _ _ h => h⟩
theorem Bel.of_below {base : Nat} {W W' : World} (hb : Below W.heap.size W W') (h : base ≤ W.heap.size) : Bel base W W' := ⟨hb.mono h, .of_below hb⟩
theorem Bel.drew {base : Nat} {A B : World} (h : Bel base A B) : Bel base A B.drew := ⟨h.1.drew, h.2⟩
theorem IsP.setB {base : Nat} {W : World} {g : Nat} {p : PS} (h : IsP base W g p) (j : Nat) (u : Value) : Bel base W (W.setCell ⟨g, j, none⟩ u) := by
 obtain ⟨hl, h1, h2, v, rs, ok, hg, hR, hS⟩ := h
 exact ⟨(Below.refl base W).setCell h1 _, fun k o ho hk => (Below.heap_setCell W ⟨g, j, none⟩ u k (qg5 hk hg ho.parser)).trans hk⟩
theorem qd5 {α : Type} {d : Kd α} {e base : Nat} {W : World} {ok : Nat → Prop} {v : Value} {xs : List α} (h : d.R e W base ok v xs) (hp : 0 < xs.length) : ∃ F c cells, v = .slice (some ⟨F, 0, none⟩) xs.length c ∧ xs.length ≤ c ∧ base ≤ F ∧ W.heap[F]? = some (.cells cells e (0, 0)) ∧ ok F := by
 obtain ⟨h0, inner, ho, hr⟩ := h
 rcases ho.2 with ⟨rfl, h1⟩ | ⟨F, c, cur, rfl, hb, hh, hc, hm, _⟩
 ·omega
 ·exact ⟨F, c, cur, rfl, hc, hb, hh, h0 F (by simp [Value.ownBlock])⟩
end Go.Proofs.Ytcmipoicnonaeaa.F
end
section
namespace Go.Proofs.Ytcmipoicnonaeaa.F
open Go.RowKit Go.Proofs.YtcmipoicnonaeaaW.PrintWords Go.Proofs.YtcmipoicnonaeaaW.PrintLast Go.Proofs.YtcmipoicnonaeaaW.PrintMore
set_option linter.unusedVariables false
set_option linter.unusedSimpArgs false
def Oth (W w' : World) (K0 : Option Nat) (F : Nat) : Prop := W.heap.size ≤ w'.heap.size ∧ ∀ k, k < W.heap.size → some k ≠ K0 → k ≠ F → w'.heap[k]? = W.heap[k]?
theorem RF_any {W : World} {base : Nat} {ok : Nat → Prop} {v : Value} {xs : List RF} (h : kRF.R 59 W base ok v xs) (o2 : Nat → Prop) (h2 : ∀ k, v.ownBlock = some k → o2 k) : kRF.R 59 W base o2 v xs :=
 ⟨h2, h.2.imp_ (fun _ _ hp => hp)⟩
theorem RF_set {W w' : World} {base F n c i j : Nat} {ok : Nat → Prop} {xs : List RF} {FC : Array Value} {u : Value} (h : kRF.R 59 W base ok (.slice (some ⟨F, 0, none⟩) n c) xs) (hi : i < n) (x x' : RF) (hx : xs[i]? = some x)
  (hx' : isSl x'.v0 ∧ isSl x'.v1) (hj : j < 4) (hc : RFc x' = (RFc x).set j u) (hF : W.heap[F]? = some (.cells FC 59 (0, 0))) (hw : w'.heap[F]? = some (.cells (FC.setIfInBounds (i * 4 + j) u) 59 (0, 0))) :
  kRF.R 59 w' base ok (.slice (some ⟨F, 0, none⟩) n c) (xs.set i x') := by
 have hq := Kd.qdx h
 obtain ⟨cs, hcl, hM, hcc, -⟩ := Kd.qei hq x (i : Int) (by omega) (by omega)
 have hil : i < xs.length := (List.getElem?_eq_some_iff.1 hx).1
 have hgx : xs.getD ((i : Int)).toNat x = x := by rw [Int.toNat_natCast, List.getD_eq_getElem?_getD, hx]; rfl
 rw [hgx] at hM
 obtain ⟨rfl, -, -⟩ := hM
 have hM' : kRF.M W base (fun _ => False) x' ((RFc x).take j ++ [u] ++ (RFc x).drop (j + [u].length)) := by
  refine ⟨?_, hx'⟩
  rw [hc, List.set_eq_take_append_cons_drop, if_pos (show j < (RFc x).length from hj)]
  simp
 have hseg := (Kd.Q_seg hq (i : Int) (by omega) (by omega) hcl hcc (by show j + 1 ≤ 4; omega) hM' (fun k hk => hk.elim)).1
 have hR := Kd.R_of_Q hseg (by decide) (by omega)
 have hXF : (W.setCells F (0 + ((i : Int)).toNat * kRF.sz + j) [u]).heap[F]? = some (.cells (FC.setIfInBounds (i * 4 + j) u) 59 (0, 0)) := by
  rw [show 0 + ((i : Int)).toNat * kRF.sz + j = i * 4 + j by show 0 + ((i : Int)).toNat * 4 + j = _; rw [Int.toNat_natCast, Nat.zero_add]]
  exact qaa hF _ u rfl
 rw [Int.toNat_natCast] at hR hXF
 have hR2 := RF_any hR (fun k => k = F) (fun k hk => by simp [Value.ownBlock] at hk; exact hk.symm)
 refine RF_any (Kd.qe0 hR2 (fun k hk => ?_)) ok (fun k hk => h.1 k hk)
 rw [hk, hw, hXF]
def PutI (base : Nat) (W : World) (ok1 : Nat → Prop) (K0 : Option Nat) (F : Nat) (FC : Array Value) (m : Nat) (xs : List S27) (r : S27) (v1 : Value) (b9 b12 : Bool) (w' : World) : Prop :=
 Oth W w' K0 F ∧ w'.heap[F]? = some (.cells (if b12 then FC.setIfInBounds m v1 else FC) 59 (0, 0)) ∧ (v1.ownBlock = K0 ∨ ∃ b, v1.ownBlock = some b ∧ W.heap.size ≤ b) ∧ k27.R 27 w' base ok1 v1 (xs ++ [if b9 then r else z27]) ∧ Below base W w'
theorem put_first {base : Nat} {W w1 : World} {okA ok1 : Nat → Prop} {v v1 : Value} {F m : Nat} {FC : Array Value} {xs : List S27} {r : S27} (hv : k27.R 27 W base okA v xs) (hF : W.heap[F]? = some (.cells FC 59 (0, 0)))
  (hR : k27.R 27 w1 base ok1 v1 (xs ++ [z27])) (hg : W.grownBy w1 v.ownBlock) (hat : v1.ownBlock = v.ownBlock ∨ ∃ b, v1.ownBlock = some b ∧ W.heap.size ≤ b) (hB : Below base W w1) : PutI base W ok1 v.ownBlock F FC m xs r v1 false false w1 :=
 ⟨⟨hg.size, fun k hk h1 _ => hg.block k hk h1⟩, qd0 hF hg (Kd.R_ne hv hF (by decide)), hat, hR, hB⟩
theorem Re_types {t : Nat} (h1 : t ≠ 27) (h2 : t ≠ 3) : ∀ q ∈ 27 :: k27.E, q ≠ t := by
 intro q hq e
 rcases Re_E q hq with rfl | rfl
 ·exact h1 e.symm
 ·exact h2 e.symm
theorem Re_only {t : Nat} (h1 : t ≠ 27) : ∀ q ∈ 27 :: k27.E, q ≠ t := by
 intro q hq e
 have : q ∈ [27, 27] := hq
 simp only [List.mem_cons, List.not_mem_nil, or_false, or_self] at this
 exact h1 (e.symm.trans this)
theorem PutI.slice {base : Nat} {W w' : World} {ok1 : Nat → Prop} {K0 : Option Nat} {F m : Nat} {FC : Array Value} {xs : List S27} {r : S27} {v1 : Value} {b9 b12 : Bool} (h : PutI base W ok1 K0 F FC m xs r v1 b9 b12 w') (hFs : F < W.heap.size) (hb : base ≤ F) (hfz : b12 = false) : PutI base W ok1 K0 F FC m xs r v1 b9 true (w'.setCell ⟨F, m, none⟩ v1) := by
 obtain ⟨⟨h1, h2⟩, h3, h4, h5, h6⟩ := h
 subst hfz
 refine ⟨⟨by simpa [World.setCell] using h1, fun k hk q1 q2 => (Below.heap_setCell w' ⟨F, m, none⟩ v1 k q2).trans (h2 k hk q1 q2)⟩, qaa h3 m v1 rfl, h4, Kd.qge h5 h3 (Re_types (by decide) (by decide)) m v1, h6.setCell hb _⟩
theorem PutI.elem {base : Nat} {W w' : World} {ok1 okr : Nat → Prop} {K0 : Option Nat} {F m : Nat} {FC : Array Value} {xs : List S27} {r : S27} {v1 v8 : Value} {b12 : Bool} (h : PutI base W ok1 K0 F FC m xs r v1 false b12 w') (hFs : W.heap[F]? = some (.cells FC 59 (0, 0)))
  (hr : k27.R 27 W base okr v8 r.f5) (hr1 : ∀ k, okr k → ok1 k) (hr2 : ∀ k, okr k → some k ≠ K0) (hK0 : ∀ k, K0 = some k → k < W.heap.size) (hbW : base ≤ W.heap.size) :
  ∃ K c, v1 = .slice (some ⟨K, 0, none⟩) (xs.length + 1) c ∧ w'.there K (xs.length * 9) 9 ∧ PutI base W ok1 K0 F FC m xs r v1 true b12 (w'.setCells K (xs.length * 9) [.int .i64 r.f0, .int .u64 r.f1.f0, .int .u64 r.f1.f1, .int .u64 r.f1.f2, .int .u64 r.f1.f3, .int .i64 r.f2, .int .i64 r.f3, .int .i64 r.f4, v8]) := by
 obtain ⟨⟨h1, h2⟩, h3, h4, h5, h6⟩ := h
 obtain ⟨K, c, cells, rfl, hc, hbK, hK, hok⟩ := qd5 h5 (by simp)
 have hlen : (xs ++ [if false = true then r else z27]).length = xs.length + 1 := by simp
 rw [hlen] at h3 h5 hc ⊢
 refine ⟨K, c, rfl, ?_, ?_⟩
 ·have hq := Kd.qei (Kd.qdx h5) z27 (xs.length : Int) (by omega) (by omega)
  obtain ⟨cs, hcl, -, hcc, hfz⟩ := hq
  intro j hj
  have hcl9 : cs.length = 9 := hcl
  have := hcc j _ (List.getElem?_eq_getElem (by omega : j < cs.length))
  rw [Int.toNat_natCast, Nat.zero_add] at this
  have hz := hfz j
  rw [Int.toNat_natCast, Nat.zero_add] at hz
  exact ⟨by rw [show xs.length * 9 + j = xs.length * k27.sz + j from rfl, this]; rfl, hz⟩
 ·have hKF : K ≠ F := qdz hK h3 (by decide)
  have hne : ∀ k, okr k → k < W.heap.size → k ≠ K := by
   intro k hk hlt e
   subst e
   rcases h4 with h4 | ⟨b, hb, hle⟩
   ·exact hr2 k hk (h4 ▸ rfl)
   ·have : b = k := by simp [Value.ownBlock] at hb; exact hb.symm
    omega
  have hrb := R_bd hr
  have hrw : k27.R 27 w' base (fun k => okr k ∧ Bd W k) v8 r.f5 := by
   refine Kd.qe0 hrb (fun k hk => h2 k hk.2.1 (hr2 k hk.1) ?_)
   rintro rfl
   obtain ⟨_, _, q, hq, cells2, hc2⟩ := hk
   rw [hFs] at hc2
   injection hc2 with hc2
   injection hc2 with _ hc2 _
   rcases hq with rfl | rfl <;> cases hc2
  have hM := qfv w' base _ r hrw
  have hq := Kd.qei (Kd.qdx h5) z27 (xs.length : Int) (by omega) (by omega)
  obtain ⟨cs, hcl, -, hcc, hfz⟩ := hq
  have hseg := Kd.Q_seg (Kd.qdx h5) (xs.length : Int) (by omega) (by omega) (j := 0) (seg := [.int .i64 r.f0, .int .u64 r.f1.f0, .int .u64 r.f1.f1, .int .u64 r.f1.f2, .int .u64 r.f1.f3, .int .i64 r.f2, .int .i64 r.f3, .int .i64 r.f4, v8]) hcl hcc (by show 0 + 9 ≤ 9; omega) (x' := r) (okp := fun k => okr k ∧ Bd W k)
   (by
    have e : cs.take 0 ++ [Value.int .i64 r.f0, .int .u64 r.f1.f0, .int .u64 r.f1.f1, .int .u64 r.f1.f2, .int .u64 r.f1.f3, .int .i64 r.f2, .int .i64 r.f3, .int .i64 r.f4, v8] ++ cs.drop (0 + [Value.int .i64 r.f0, .int .u64 r.f1.f0, .int .u64 r.f1.f1, .int .u64 r.f1.f2, .int .u64 r.f1.f3, .int .i64 r.f2, .int .i64 r.f3, .int .i64 r.f4, v8].length) = [Value.int .i64 r.f0, .int .u64 r.f1.f0, .int .u64 r.f1.f1, .int .u64 r.f1.f2, .int .u64 r.f1.f3, .int .i64 r.f2, .int .i64 r.f3, .int .i64 r.f4, v8] := by
     rw [List.take_zero, List.nil_append, List.drop_eq_nil_of_le (by have : cs.length = 9 := hcl; simp; omega), List.append_nil]
    rw [e]
    exact hM)
   (fun k hk => ⟨hr1 k hk.1, hne k hk.1 hk.2.1⟩)
  obtain ⟨hs1, hs2⟩ := hseg
  have ei : 0 + ((xs.length : Int)).toNat * k27.sz + 0 = xs.length * 9 := by
   show 0 + ((xs.length : Int)).toNat * 9 + 0 = _
   rw [Int.toNat_natCast]
   omega
  rw [ei] at hs1 hs2
  rw [Int.toNat_natCast] at hs1
  have hset : (xs ++ [if false = true then r else z27]).set xs.length r = xs ++ [if true = true then r else z27] := by simp
  rw [hset] at hs1
  have hR := Kd.R_of_Q hs1 (by decide) (by omega)
  refine ⟨⟨Nat.le_trans h1 hs2.size, fun k hk q1 q2 => ?_⟩, ?_, h4, hR, h6.grown hs2 (Nat.le_trans hbW h1) (fun j ej => by injection ej with ej; rw [← ej]; exact hbK)⟩
  ·refine (hs2.block k (Nat.lt_of_lt_of_le hk h1) ?_).trans (h2 k hk q1 q2)
   intro e
   injection e with e
   subst e
   rcases h4 with h4 | ⟨b, hb, hle⟩
   ·exact q1 (h4 ▸ rfl)
   ·have : b = k := by simp [Value.ownBlock] at hb; exact hb.symm
    omega
  ·exact qd0 h3 hs2 (fun e => hKF (by injection e with e; exact e.symm))
theorem I_bd3 {base : Nat} {W : World} {ok : Nat → Prop} {v : Value} {xs : List Int} (h : (Kd.int .i64).R 3 W base ok v xs) : (Kd.int .i64).R 3 W base (fun k => ok k ∧ k < W.heap.size ∧ ∃ cells, W.heap[k]? = some (.cells cells 3 (0, 0))) v xs :=
 Kd.qbd (Kd.qdc h) (fun k ⟨h1, h2, h3, q, hq, hc⟩ => ⟨h1, h3, by
  have : q ∈ [3] := hq
  rw [List.mem_singleton.1 this] at hc
  exact hc⟩)
theorem qe7 {α : Type} {d : Kd α} {e base : Nat} {W : World} {ok : Nat → Prop} {v : Value} {xs : List α} (h : d.R e W base ok v xs) {k t : Nat} {cells : Array Value} (hk : W.heap[k]? = some (.cells cells t (0, 0))) (ht : e ≠ t) : some k ≠ v.ownBlock := Kd.R_ne h hk ht
theorem put_ints {base F m : Nat} {Y w' : World} {oA ok1 : Nat → Prop} {v0 vi v1 : Value} {f : S59} {r : S27} {FC : Array Value} {b9 b12 : Bool} (HK : k27.R 27 Y base oA v0 f.f0) (HI : (Kd.int .i64).R 3 Y base oA vi f.f1) (HF : Y.heap[F]? = some (.cells FC 59 (0, 0)))
  (HP : PutI base Y ok1 v0.ownBlock F FC m f.f0 r v1 b9 b12 w') : (Kd.int .i64).R 3 w' base (fun k => oA k ∨ Y.heap.size ≤ k) vi f.f1 := by
 refine Kd.qbd (Kd.qe0 (I_bd3 HI) (fun k hk => ?_)) (fun k hk => .inl hk.1)
 obtain ⟨_, hlt, cells, hc⟩ := hk
 exact HP.1.2 k hlt (qe7 HK hc (by decide)) (qdz hc HF (by decide))
set_option maxHeartbeats 1000000 in
theorem put_done {base g F c q m : Nat} {Y w' w3 : World} {p : PS} {f : S59} {fs : List S59} {r : S27} {n : Int} {r0 : RF} {rs' : List RF} {oA oB okr : Nat → Prop} {v1 v2 : Value} {FC : Array Value}
  (hl10 : p.sh.length = 10) (hbg : base ≤ g) (hbY : base ≤ Y.heap.size) (hbF : base ≤ F) (HG : Y.heap[g]? = some (.cells (Pc (.slice (some ⟨F, 0, none⟩) (q + 1) c) p).toArray 62 (0, 0))) (HF : Y.heap[F]? = some (.cells FC 59 (0, 0)))
  (HR : kRF.R 59 Y base (fun _ => True) (.slice (some ⟨F, 0, none⟩) (q + 1) c) (r0 :: rs').reverse) (hq : rs'.length = q) (hm : q * 4 = m) (hrg : r0.g = f.f2) (hra : r0.a = f.f3)
  (HK : k27.R 27 Y base oA r0.v0 f.f0) (HI : (Kd.int .i64).R 3 Y base oA r0.v1 f.f1) (HS : Stack base Y rs' fs (fun k => oB k ∧ Bd Y k)) (hAB : ∀ k, oA k → oB k → False) (hrB : ∀ k, okr k → oB k → False)
  (HP : PutI base Y (fun k => oA k ∨ okr k ∨ Y.heap.size ≤ k) r0.v0.ownBlock F FC m f.f0 r v1 true true w') (hv1 : isSl v1) (hi0 : isSl r0.v1)
  (HI3 : (Kd.int .i64).R 3 w3 base (fun k => oA k ∨ Y.heap.size ≤ k) v2 (f.f1 ++ [n])) (hg3 : w'.grownBy w3 r0.v1.ownBlock) (hv2 : isSl v2) (HB3 : Below base w' w3) :
  IsP base (w3.setCell ⟨F, m + 1, none⟩ v2) g { p with fs := { f with f0 := f.f0 ++ [r], f1 := f.f1 ++ [n] } :: fs } ∧ Bel base Y (w3.setCell ⟨F, m + 1, none⟩ v2) := by
 obtain ⟨⟨hsz, hoth⟩, hwF, hat, hwK, hwB⟩ := HP
 have hrl : (r0 :: rs').reverse.length = q + 1 := by simp [hq]
 have hr0 : (r0 :: rs').reverse[q]? = some r0 := by rw [List.reverse_cons, List.getElem?_append_right (by simp; omega)]; simp [hq]
 have HIw := put_ints HK HI HF ⟨⟨hsz, hoth⟩, hwF, hat, hwK, hwB⟩
 have hR1 := RF_set (w' := w') (i := q) (j := 0) HR (by omega) r0 { r0 with v0 := v1 } hr0 ⟨hv1, hi0⟩ (by omega) rfl HF (by rw [hm]; exact hwF)
 have hr1 : ((r0 :: rs').reverse.set q { r0 with v0 := v1 })[q]? = some { r0 with v0 := v1 } := by rw [List.getElem?_set_self (by omega)]
 have h3F : w3.heap[F]? = some (.cells (FC.setIfInBounds m v1) 59 (0, 0)) := qd0 hwF hg3 (qe7 HIw hwF (by decide))
 have hzF : (w3.setCell ⟨F, m + 1, none⟩ v2).heap[F]? = some (.cells ((FC.setIfInBounds m v1).setIfInBounds (m + 1) v2) 59 (0, 0)) := qaa h3F _ v2 rfl
 have hR2 := RF_set (w' := w3.setCell ⟨F, m + 1, none⟩ v2) (i := q) (j := 1) hR1 (by omega) { r0 with v0 := v1 } { r0 with v0 := v1, v1 := v2 } hr1 ⟨hv1, hv2⟩ (by omega) rfl hwF (by rw [hm]; exact hzF)
 have hset : ((r0 :: rs').reverse.set q { r0 with v0 := v1 }).set q { r0 with v0 := v1, v1 := v2 } = (({ r0 with v0 := v1, v1 := v2 } : RF) :: rs').reverse := by
  rw [List.set_set, List.reverse_cons, List.reverse_cons, List.set_append_right _ _ (by simp [hq])]
  simp [hq]
 rw [hset] at hR2
 have hgK : some g ≠ r0.v0.ownBlock := qe7 HK HG (by decide)
 have hgF : g ≠ F := qdz HG HF (by decide)
 have hwG := (hoth g (qam HG) hgK hgF).trans HG
 have hzG := qaj (p := ⟨F, m + 1, none⟩) (qd0 hwG hg3 (qe7 HIw hwG (by decide))) hgF v2
 have hK3 : k27.R 27 (w3.setCell ⟨F, m + 1, none⟩ v2) base (fun k => oA k ∨ okr k ∨ Y.heap.size ≤ k) v1 (f.f0 ++ [r]) := by
  have hwK' : k27.R 27 w' base (fun k => oA k ∨ okr k ∨ Y.heap.size ≤ k) v1 (f.f0 ++ [r]) := hwK
  have h4 : k27.R 27 w3 base (fun k => oA k ∨ okr k ∨ Y.heap.size ≤ k) v1 (f.f0 ++ [r]) := by
   refine Kd.qbd (Kd.qe0 (Kd.qdc hwK') (fun k hk => ?_)) (fun k hk => hk.1)
   obtain ⟨_, _, hlt, q', hq', cells, hc⟩ := hk
   have h27 : q' = 27 := by
    have : q' ∈ [27, 27] := hq'
    simpa using this
   subst h27
   exact hg3.block k hlt (qe7 HIw hc (by decide))
  exact Kd.qge h4 h3F (Re_types (by decide) (by decide)) (m + 1) v2
 have hI3 : (Kd.int .i64).R 3 (w3.setCell ⟨F, m + 1, none⟩ v2) base (fun k => oA k ∨ okr k ∨ Y.heap.size ≤ k) v2 (f.f1 ++ [n]) := by
  refine Kd.qbd (Kd.qge HI3 h3F ?_ (m + 1) v2) (fun k hk => hk.elim .inl (fun h => .inr (.inr h)))
  intro q' hq' e
  have : q' ∈ [3] := hq'
  rw [List.mem_singleton.1 this] at e
  cases e
 have hS3 : Stack base (w3.setCell ⟨F, m + 1, none⟩ v2) rs' fs (fun k => oB k ∧ Bd Y k) := by
  refine HS.step (fun k hk hlt => ?_)
  obtain ⟨hB, _, q', hq', cells, hc⟩ := hk
  have hkF : k ≠ F := qdz hc HF (by rcases hq' with rfl | rfl <;> decide)
  have h1 := hoth k hlt (fun e => hAB k (HK.1 k e.symm) hB) hkF
  have h2 := hg3.block k (Nat.lt_of_lt_of_le hlt hsz) (fun e => hAB k (HI.1 k e.symm) hB)
  exact (Below.heap_setCell w3 ⟨F, m + 1, none⟩ v2 k hkF).trans (h2.trans h1)
 refine ⟨⟨hl10, hbg, ?_, _, _, fun _ => True, hzG, hR2, hrg, hra, _, _, fun _ _ => trivial, fun _ _ => trivial, ?_, hK3, hI3, hS3⟩, (hwB.trans HB3).setCell hbF v2, fun k o ho hk => ?_⟩
 ·have : w3.heap.size ≤ (w3.setCell ⟨F, m + 1, none⟩ v2).heap.size := by simp [World.setCell]
  have := hg3.size
  omega
 ·rintro k (h1 | h1 | h1) h2
  ·exact hAB k h1 h2.1
  ·exact hrB k h1 h2.1
  ·have := h2.2.1
   omega
 ·have hkF : k ≠ F := qg5 hk HF ho.frame
  have h1 := (hoth k (qam hk) (qg3 HK hk ho.re) hkF).trans hk
  exact (Below.heap_setCell w3 ⟨F, m + 1, none⟩ v2 k hkF).trans (qd0 h1 hg3 (qg3 HIw h1 ho.int))
end Go.Proofs.Ytcmipoicnonaeaa.F
end
section
namespace Go.Proofs.Ytcmipoicnonaeaa.F
open Go.RowKit Go.Proofs.YtcmipoicnonaeaaW.PrintWords Go.Proofs.YtcmipoicnonaeaaW.PrintLast Go.Proofs.YtcmipoicnonaeaaW.PrintMore
set_option linter.unusedVariables false
set_option linter.unusedSimpArgs false
theorem lit_R {α : Type} (d : Kd α) (W : World) (base e : Nat) {xs : List α} {inner : List Value} {ok okp : Nat → Prop} (hrep : Reps (d.M W base okp) d.sz xs inner) (hok : ∀ k, okp k → ok k) (hfresh : ok W.heap.size) (hbase : base ≤ W.heap.size) (hm : xs.length ≤ 9223372036854775807) :
  d.R e (W.alloc (.cells inner.toArray e)) base ok (.slice (some ⟨W.heap.size, 0, none⟩) xs.length xs.length) xs := by
 refine ⟨fun k hk => ?_, inner, ?_, ?_⟩
 ·have : W.heap.size = k := by simpa [Value.ownBlock] using hk
  subst this
  exact hfresh
 ·have h2 := World.ownsRow_lit (base := base) (e := e) (size := d.sz) W inner.toArray xs.length hbase (by simpa [maxLen] using hm) (by simpa using hrep.1)
  simpa using h2
 ·refine hrep.imp_ (fun p c hp => d.M_mono (fun k hk => ⟨hok k hk.1, fun he => ?_⟩) (Kd.M_below (d.M_bound hp) (qa6 (Below.refl _ _) _)))
  have h3 : k = W.heap.size := by simpa [Value.ownBlock] using he
  have := hk.2.2.1
  omega
def xcL (x : S27) (v8 : Value) : List Value := [.int .i64 x.f0, .int .u64 x.f1.f0, .int .u64 x.f1.f1, .int .u64 x.f1.f2, .int .u64 x.f1.f3, .int .i64 x.f2, .int .i64 x.f3, .int .i64 x.f4, v8]
def newR (lo hi : Int) (x : S27) : S27 := ⟨5, ⟨0, 0, 0, 0⟩, lo, hi, 0, [x]⟩
def newL (lo hi : Int) (b : Nat) : List Value := [.int .i64 5, .int .u64 0, .int .u64 0, .int .u64 0, .int .u64 0, .int .i64 lo, .int .i64 hi, .int .i64 0, .slice (some ⟨b, 0, none⟩) 1 1]
set_option maxHeartbeats 1000000 in
theorem qi1 {base K c0 n : Nat} {Y : World} {oA : Nat → Prop} {xs : List S27} {x : S27} (lo hi : Int) (HK : k27.R 27 Y base oA (.slice (some ⟨K, 0, none⟩) (n + 1) c0) (xs ++ [x])) (hn : xs.length = n) (hbY : base ≤ Y.heap.size) :
  ∃ A8 c8, (∀ j u, (xcL x (.slice A8 x.f5.length c8))[j]? = some u → Y.cell? ⟨K, n * 9 + j, none⟩ = some u) ∧ (Y.alloc (.cells (xcL x (.slice A8 x.f5.length c8)).toArray 27 (0, 0))).there K (n * 9) 9 ∧
   k27.R 27 ((Y.alloc (.cells (xcL x (.slice A8 x.f5.length c8)).toArray 27 (0, 0))).setCells K (n * 9) (newL lo hi Y.heap.size)) base (fun k => oA k ∨ Y.heap.size ≤ k) (.slice (some ⟨K, 0, none⟩) (n + 1) c0) (xs ++ [newR lo hi x]) ∧
   (Y.alloc (.cells (xcL x (.slice A8 x.f5.length c8)).toArray 27 (0, 0))).grownBy ((Y.alloc (.cells (xcL x (.slice A8 x.f5.length c8)).toArray 27 (0, 0))).setCells K (n * 9) (newL lo hi Y.heap.size)) (some K) := by
 have hlast : (xs ++ [x]).getD ((n : Int)).toNat z27 = x := by rw [Int.toNat_natCast, List.getD_eq_getElem?_getD, List.getElem?_append_right (by omega)]; simp [hn]
 have hi1 : ((n : Int)) < ((n + 1 : Nat) : Int) := by omega
 obtain ⟨cs, hcl, hM, hcc, -⟩ := Kd.qei (Kd.qdx HK) z27 (n : Int) (by omega) hi1
 rw [hlast] at hM
 obtain ⟨v8, rfl, hR8⟩ := qft hM
 obtain ⟨A8, c8, rfl⟩ := Kd.qdb hR8
 have ei : ∀ j, 0 + ((n : Int)).toNat * k27.sz + j = n * 9 + j := fun j => by show 0 + ((n : Int)).toNat * 9 + j = _; rw [Int.toNat_natCast, Nat.zero_add]
 refine ⟨A8, c8, fun j u hu => by have := hcc j u hu; rwa [ei] at this, ?_⟩
 obtain ⟨Y1, hY1⟩ : ∃ Z, Y.alloc (.cells (xcL x (.slice A8 x.f5.length c8)).toArray 27 (0, 0)) = Z := ⟨_, rfl⟩
 have hb1 : Below Y.heap.size Y Y1 := by rw [← hY1]; exact qa6 (Below.refl _ _) _
 have hnew : k27.R 27 Y1 base (fun k => (oA k ∧ k ≠ K) ∨ k = Y.heap.size) (.slice (some ⟨Y.heap.size, 0, none⟩) 1 1) [x] := by
  rw [← hY1]
  exact lit_R k27 Y base 27 (xs := [x]) (okp := fun k => oA k ∧ k ≠ K) (Reps.front hM rfl (Reps.none _ _) rfl) (fun k hk => .inl hk) (.inr rfl) hbY (by simp)
 have HK1 := Kd.qbd (Kd.qbg HK hb1) (ok' := fun k => oA k ∨ Y.heap.size ≤ k) (fun k hk => .inl hk)
 obtain ⟨cs1, hcl1, hM1, hcc1, hfz1⟩ := Kd.qei (Kd.qdx HK1) z27 (n : Int) (by omega) hi1
 have hlt : K < Y.heap.size := by
  obtain ⟨F', c', cells', he, -, -, hh, -⟩ := qd5 HK (by simp)
  injection he with h1 _ _
  injection h1 with h1
  injection h1 with h1 _ _
  rw [h1]
  exact qam hh
 have hMn : k27.M Y1 base (fun k => (oA k ∧ k ≠ K) ∨ k = Y.heap.size) (newR lo hi x) (newL lo hi Y.heap.size) := qfv Y1 base _ (newR lo hi x) hnew
 have hseg := Kd.Q_seg (Kd.qdx HK1) (n : Int) (by omega) hi1 (j := 0) (seg := newL lo hi Y.heap.size) hcl1 hcc1 (by show 0 + 9 ≤ 9; omega) (x' := newR lo hi x) (okp := fun k => (oA k ∧ k ≠ K) ∨ k = Y.heap.size)
  (by
   have e : cs1.take 0 ++ newL lo hi Y.heap.size ++ cs1.drop (0 + (newL lo hi Y.heap.size).length) = newL lo hi Y.heap.size := by
    rw [List.take_zero, List.nil_append, List.drop_eq_nil_of_le (by have : cs1.length = 9 := hcl1; show cs1.length ≤ 0 + 9; omega), List.append_nil]
   rw [e]
   exact hMn)
  (fun k hk => by
   rcases hk with ⟨h1, h2⟩ | rfl
   ·exact ⟨.inl h1, h2⟩
   ·exact ⟨.inr (Nat.le_refl _), by omega⟩)
 obtain ⟨hs1, hs2⟩ := hseg
 rw [show 0 + ((n : Int)).toNat * k27.sz + 0 = n * 9 from ei 0] at hs1 hs2
 rw [Int.toNat_natCast] at hs1
 have hset : (xs ++ [x]).set n (newR lo hi x) = xs ++ [newR lo hi x] := by rw [List.set_append_right _ _ (by omega)]; simp [hn]
 rw [hset] at hs1
 rw [hY1]
 refine ⟨fun j hj => ?_, Kd.R_of_Q hs1 (by decide) (by omega), hs2⟩
 have hcl9 : cs1.length = 9 := hcl1
 have h1 := hcc1 j _ (List.getElem?_eq_getElem (by omega : j < cs1.length))
 have h2 := hfz1 j
 rw [ei] at h1 h2
 exact ⟨by rw [h1]; rfl, h2⟩
set_option maxHeartbeats 1000000 in
theorem qia {base g F c q n K Sb c0 c1 : Nat} {Y Z : World} {p : PS} {f : S59} {fs : List S59} {r0 : RF} {rs' : List RF} {oA oB : Nat → Prop} {xs' : List S27} {ns : List Int} {o o' : Int} {v : Value} {b : Nat}
  (hl10 : p.sh.length = 10) (hbg : base ≤ g) (hbY : base ≤ Y.heap.size) (HG : Y.heap[g]? = some (.cells (Pc v p).toArray 62 (0, 0)))
  (HR : kRF.R 59 Y base (fun _ => True) v (r0 :: rs').reverse) (hrg : r0.g = f.f2) (hra : r0.a = f.f3) (hv0 : r0.v0 = .slice (some ⟨K, 0, none⟩) (n + 1) c0) (hv1 : r0.v1 = .slice (some ⟨Sb, 0, none⟩) (n + 1) c1)
  (HK : k27.R 27 Y base oA r0.v0 f.f0) (HI : (Kd.int .i64).R 3 Y base oA r0.v1 (ns ++ [o])) (hns : ns.length = n) (HS : Stack base Y rs' fs (fun k => oB k ∧ Bd Y k)) (hAB : ∀ k, oA k → oB k → False)
  (hZ : ∀ k, k < Y.heap.size → k ≠ K → Z.heap[k]? = Y.heap[k]?) (hZs : Y.heap.size ≤ Z.heap.size) (hZB : Below base Y Z) (HKZ : k27.R 27 Z base (fun k => oA k ∨ Y.heap.size ≤ k) (.slice (some ⟨K, 0, none⟩) (n + 1) c0) xs') :
  Z.cell? ⟨Sb, n, none⟩ = some (.int .i64 o) ∧ Z.frozen? ⟨Sb, n, none⟩ = false ∧ IsP base (Z.setCell ⟨Sb, n, none⟩ (.int .i64 o')) g { p with fs := { f with f0 := xs', f1 := ns ++ [o'] } :: fs } ∧ Bel base Y (Z.setCell ⟨Sb, n, none⟩ (.int .i64 o')) := by
 rw [hv0] at HK
 rw [hv1] at HI
 obtain ⟨K', c', Kc, he, -, hbK, hhK, hoK⟩ := qd5 HKZ (by have := HKZ.2; obtain ⟨A, c'', h1, h2, h3⟩ := Kd.qhi HKZ; injection h1 with _ h1 _; omega)
 have hKK : K = K' := by injection he with h1 _ _; injection h1 with h1; injection h1 with h1 _ _
 subst hKK
 have hlS : (ns ++ [o]).length = n + 1 := by simp [hns]
 obtain ⟨S', c', Sc, he, -, hbS, hhS, hoS⟩ := qd5 HI (by omega)
 have hSS : Sb = S' := by injection he with h1 _ _; injection h1 with h1; injection h1 with h1 _ _
 subst hSS
 have hKown : ∀ {k t : Nat} {cells : Array Value}, Y.heap[k]? = some (.cells cells t (0, 0)) → 27 ≠ t → k ≠ K := by
  intro k t cells hk ht e
  exact qe7 HK hk ht (by rw [e]; rfl)
 have hSown : ∀ {k t : Nat} {cells : Array Value}, Y.heap[k]? = some (.cells cells t (0, 0)) → 3 ≠ t → k ≠ Sb := by
  intro k t cells hk ht e
  exact qe7 HI hk ht (by rw [e]; rfl)
 have hSK : Sb ≠ K := hKown hhS (by decide)
 have HIz : (Kd.int .i64).R 3 Z base (fun k => oA k ∨ Y.heap.size ≤ k) (.slice (some ⟨Sb, 0, none⟩) (n + 1) c1) (ns ++ [o]) := by
  refine Kd.qbd (Kd.qe0 (I_bd3 HI) (fun k hk => ?_)) (fun k hk => .inl hk.1)
  obtain ⟨_, hlt, cells, hc⟩ := hk
  exact hZ k hlt (hKown hc (by decide))
 rw [← hlS] at HIz
 have hcell := Kd.R_cell (0 : Int) HIz (n : Int) (by omega) (by omega)
 have hput := Kd.R_put HIz (n : Int) o'
 rw [Int.toNat_natCast] at hcell hput
 have hset : (ns ++ [o]).set n o' = ns ++ [o'] := by rw [List.set_append_right _ _ (by omega)]; simp [hns]
 rw [hset] at hput
 have hrd : rdOf (0 : Int) (ns ++ [o]) (n : Int) = o := by simp [rdOf, List.getD_eq_getElem?_getD, hns]
 rw [hrd] at hcell
 have hfar : ∀ k, k < Y.heap.size → k ≠ K → k ≠ Sb → (Z.setCell ⟨Sb, n, none⟩ (.int .i64 o')).heap[k]? = Y.heap[k]? := fun k h1 h2 h3 => (Below.heap_setCell Z ⟨Sb, n, none⟩ _ k h3).trans (hZ k h1 h2)
 have hKz : k27.R 27 (Z.setCell ⟨Sb, n, none⟩ (.int .i64 o')) base (fun k => oA k ∨ Y.heap.size ≤ k) r0.v0 xs' := by
  rw [hv0]
  exact Kd.qbd (Kd.qaw (Kd.qdg HKZ ((hZ Sb (qam hhS) hSK).trans hhS) (Re_only (by decide))) (p := ⟨Sb, n, none⟩) (fun k hk => hk.2) _) (fun k hk => hk.1)
 have hIz2 : (Kd.int .i64).R 3 (Z.setCell ⟨Sb, n, none⟩ (.int .i64 o')) base (fun k => oA k ∨ Y.heap.size ≤ k) r0.v1 (ns ++ [o']) := by
  rw [hv1, ← hlS]
  exact hput.1
 have hSz : Stack base (Z.setCell ⟨Sb, n, none⟩ (.int .i64 o')) rs' fs (fun k => oB k ∧ Bd Y k) := by
  refine HS.step (fun k hk hlt => ?_)
  obtain ⟨hB, _, q', hq', cells, hc⟩ := hk
  exact hfar k hlt (fun e => hAB K (HK.1 K rfl) (e ▸ hB)) (fun e => hAB Sb (HI.1 Sb rfl) (e ▸ hB))
 have hd : ∀ k, (oA k ∨ Y.heap.size ≤ k) → (oB k ∧ Bd Y k) → False := by
  rintro k (h1 | h1) h2
  ·exact hAB k h1 h2.1
  ·have := h2.2.1
   omega
 refine ⟨hcell.1, hcell.2, ⟨hl10, hbg, ?_, v, r0 :: rs', fun _ => True, ?_, ?_, hrg, hra, fun k => oA k ∨ Y.heap.size ≤ k, fun k => oB k ∧ Bd Y k, fun _ _ => trivial, fun _ _ => trivial, hd, hKz, hIz2, hSz⟩, hZB.setCell hbS _, fun k o ho hk => (hfar k (qam hk) (fun e => qg3 HK hk ho.re (by rw [e]; rfl)) (fun e => qg3 HI hk ho.int (by rw [e]; rfl))).trans hk⟩
 ·have : Z.heap.size ≤ (Z.setCell ⟨Sb, n, none⟩ (.int .i64 o')).heap.size := by simp [World.setCell]
  omega
 ·exact (hfar g (qam HG) (hKown HG (by decide)) (hSown HG (by decide))).trans HG
 ·refine Kd.qbd (Kd.qe0 (Kd.qdc HR) (fun k hk => ?_)) (fun _ _ => trivial)
  obtain ⟨_, _, hlt, q', hq', cells, hc⟩ := hk
  have : q' ∈ [59] := hq'
  rw [List.mem_singleton.1 this] at hc
  exact hfar k hlt (hKown hc (by decide)) (hSown hc (by decide))
end Go.Proofs.Ytcmipoicnonaeaa.F
end
section
namespace Go.Proofs.Ytcmipoicnonaeaa.F
open Go.RowKit Go.Proofs.YtcmipoicnonaeaaW.PrintWords Go.Proofs.YtcmipoicnonaeaaW.PrintLast Go.Proofs.YtcmipoicnonaeaaW.PrintMore
attribute [local go_sem] qbs qbr qc7 qc0 qbh qbj qbp qbq
set_option linter.unusedVariables false
set_option linter.unusedSimpArgs false
def qbx.f (a0 : Int) (a1 : Int) : Option (Int × Int × Int × Int × Int × Int × Int × Int × Int) := some (7, a0, 0, 0, 0, 0, 0, 0, a1)
set_option maxHeartbeats 8000000 in
set_option maxRecDepth 100000 in
theorem qbx.calls (a0 : Int) (a1 : Int) (r1 : Int) (r2 : Int) (r3 : Int) (r4 : Int) (r5 : Int) (r6 : Int) (r7 : Int) (r8 : Int) (r9 : Int) (w : World) (h : qbx.f a0 a1 = some (r1, r2, r3, r4, r5, r6, r7, r8, r9)) :
    Calls Try.prog 51 #[.int .i64 a0, .int .i64 a1] w fun e w' => e = .returned (.agg #[.int .i64 r1, .int .i64 r2, .int .u64 r3, .int .u64 r4, .int .u64 r5, .int .u64 r6, .int .i64 r7, .int .i64 r8, .int .i64 r9]) ∧ Below w.heap.size w w' := by
  have hu67 := Try.underlying67
  have HB := qa0.mk (Below.refl w.heap.size w)
  have H : (some (7, a0, 0, 0, 0, 0, 0, 0, a1)) = some (r1, r2, r3, r4, r5, r6, r7, r8, r9) := h
  clear h
  simp only [Option.some.injEq, Prod.mk.injEq] at H
  obtain ⟨rfl, rfl, rfl, rfl, rfl, rfl, rfl, rfl, rfl⟩ := H
  go_enter Try.func51, Try.ntmps51
  go_wp2_with (first | ((with_reducible refine qb7 (N := 4) rfl ?_); refine qbb ?hg (N := 4) ?hd (cs := #[.int .i64 0, .int .i64 0, .int .u64 0, .int .u64 0, .int .u64 0, .int .u64 0, .int .i64 0, .int .i64 0, .int .i64 0]) (t := 67) ?hr ?_; (case hd => rfl); (case hg => rfl); (case hr => first | (go_simp; done) | (go_simp; rfl)); intro gb101 hg w3 hbox hb; have n0_ := qa0.mk (qap (by repeat (first | (with_reducible first | exact HB.out | apply qa6 | apply qa7 | apply qa8) | exact HB.out)) hb); have n1_ := qa0.mk (hbox); have n2_ := qa0.mk ((by rw [hg]; exact (qaq (by repeat (first | (with_reducible first | exact HB.out | apply qa6 | apply qa7 | apply qa8) | exact HB.out))) : w.heap.size ≤ gb101)); have n3_ := qa0.mk ((by rw [hg]; exact (qaq (by repeat (first | (with_reducible first | exact HB.out | apply qa6 | apply qa7 | apply qa8) | exact HB.out))) : w.heap.size ≤ gb101)); clear HB; have HB := n0_; have BK101 := n1_; have GW101 := n2_; have GE101 := n3_; clear n0_ n1_ n2_ n3_; clear hb hbox hg; have hcz4_0 : w3.cell? ⟨gb101, 0, none⟩ = some (.int .i64 0) := (qa2 BK101.out 0).trans rfl; have hcz4_1 : w3.cell? ⟨gb101, 1, none⟩ = some (.int .i64 0) := (qa2 BK101.out 1).trans rfl; have hcz4_2 : w3.cell? ⟨gb101, 2, none⟩ = some (.int .u64 0) := (qa2 BK101.out 2).trans rfl; have hcz4_3 : w3.cell? ⟨gb101, 3, none⟩ = some (.int .u64 0) := (qa2 BK101.out 3).trans rfl; have hcz4_4 : w3.cell? ⟨gb101, 4, none⟩ = some (.int .u64 0) := (qa2 BK101.out 4).trans rfl; have hcz4_5 : w3.cell? ⟨gb101, 5, none⟩ = some (.int .u64 0) := (qa2 BK101.out 5).trans rfl; have hcz4_6 : w3.cell? ⟨gb101, 6, none⟩ = some (.int .i64 0) := (qa2 BK101.out 6).trans rfl; have hcz4_7 : w3.cell? ⟨gb101, 7, none⟩ = some (.int .i64 0) := (qa2 BK101.out 7).trans rfl; have hcz4_8 : w3.cell? ⟨gb101, 8, none⟩ = some (.int .i64 0) := (qa2 BK101.out 8).trans rfl; have hfz4_0 := qa1 BK101.out 0; have hfz4_1 := qa1 BK101.out 1; have hfz4_2 := qa1 BK101.out 2; have hfz4_3 := qa1 BK101.out 3; have hfz4_4 := qa1 BK101.out 4; have hfz4_5 := qa1 BK101.out 5; have hfz4_6 := qa1 BK101.out 6; have hfz4_7 := qa1 BK101.out 7; have hfz4_8 := qa1 BK101.out 8))
  refine bodyPost_ret (results_cell_row rfl _ _ gb101 67 #[.int .i64 7, .int .i64 a0, .int .u64 0, .int .u64 0, .int .u64 0, .int .u64 0, .int .i64 0, .int .i64 0, .int .i64 a1] (0, 0) _ rfl (by (with_reducible repeat (first | refine qa4 ?_ _ | refine qa5 ?_ | refine qa3 ?_ _)); refine qaa (cs := #[.int .i64 7, .int .i64 a0, .int .u64 0, .int .u64 0, .int .u64 0, .int .u64 0, .int .i64 0, .int .i64 0, .int .i64 0]) ?_ 8 _ rfl; (with_reducible repeat (first | refine qa4 ?_ _ | refine qa5 ?_ | refine qa3 ?_ _)); refine qaa (cs := #[.int .i64 7, .int .i64 a0, .int .u64 0, .int .u64 0, .int .u64 0, .int .u64 0, .int .i64 0, .int .i64 0, .int .i64 0]) ?_ 7 _ rfl; (with_reducible repeat (first | refine qa4 ?_ _ | refine qa5 ?_ | refine qa3 ?_ _)); refine qaa (cs := #[.int .i64 7, .int .i64 a0, .int .u64 0, .int .u64 0, .int .u64 0, .int .u64 0, .int .i64 0, .int .i64 0, .int .i64 0]) ?_ 6 _ rfl; (with_reducible repeat (first | refine qa4 ?_ _ | refine qa5 ?_ | refine qa3 ?_ _)); refine qaa (cs := #[.int .i64 7, .int .i64 a0, .int .u64 0, .int .u64 0, .int .u64 0, .int .u64 0, .int .i64 0, .int .i64 0, .int .i64 0]) ?_ 5 _ rfl; (with_reducible repeat (first | refine qa4 ?_ _ | refine qa5 ?_ | refine qa3 ?_ _)); refine qaa (cs := #[.int .i64 7, .int .i64 a0, .int .u64 0, .int .u64 0, .int .u64 0, .int .u64 0, .int .i64 0, .int .i64 0, .int .i64 0]) ?_ 4 _ rfl; (with_reducible repeat (first | refine qa4 ?_ _ | refine qa5 ?_ | refine qa3 ?_ _)); refine qaa (cs := #[.int .i64 7, .int .i64 a0, .int .u64 0, .int .u64 0, .int .u64 0, .int .u64 0, .int .i64 0, .int .i64 0, .int .i64 0]) ?_ 3 _ rfl; (with_reducible repeat (first | refine qa4 ?_ _ | refine qa5 ?_ | refine qa3 ?_ _)); refine qaa (cs := #[.int .i64 7, .int .i64 a0, .int .u64 0, .int .u64 0, .int .u64 0, .int .u64 0, .int .i64 0, .int .i64 0, .int .i64 0]) ?_ 2 _ rfl; (with_reducible repeat (first | refine qa4 ?_ _ | refine qa5 ?_ | refine qa3 ?_ _)); refine qaa (cs := #[.int .i64 7, .int .i64 0, .int .u64 0, .int .u64 0, .int .u64 0, .int .u64 0, .int .i64 0, .int .i64 0, .int .i64 0]) ?_ 1 _ rfl; (with_reducible repeat (first | refine qa4 ?_ _ | refine qa5 ?_ | refine qa3 ?_ _)); refine qaa (cs := #[.int .i64 0, .int .i64 0, .int .u64 0, .int .u64 0, .int .u64 0, .int .u64 0, .int .i64 0, .int .i64 0, .int .i64 0]) ?_ 0 _ rfl; (with_reducible repeat (first | refine qa4 ?_ _ | refine qa5 ?_ | refine qa3 ?_ _)); exact BK101.out) Try.underlying67 rfl (by kernel_rfl)) rfl ?_
  exact ⟨by first | rfl | (simp only [wrap_wrap]; done) | (simp only [wrap_wrap]; rfl) | (simp [qah, qai] <;> rfl) | (simp [*, qah, qai] <;> rfl), by repeat (first | (with_reducible first | exact HB.out | apply qa6 | apply qa7 | apply qa8 | refine qa9 ?_ GE101.out) | exact HB.out)⟩
end Go.Proofs.Ytcmipoicnonaeaa.F
end
section
namespace Go.Proofs.Ytcmipoicnonaeaa.F
open Go.RowKit Go.Proofs.YtcmipoicnonaeaaW.PrintWords
def qcp (s : Int) (k b : Int) : Int := if b / 64 = k then Go.bits .or .u64 s (2 ^ (b % 64).toNat) else s
def wordOf (s0 s1 s2 s3 b : Int) : Int := if b / 64 = 0 then s0 else if b / 64 = 1 then s1 else if b / 64 = 2 then s2 else s3
def hasBit (s0 s1 s2 s3 b : Int) : Bool := Go.bits .and .u64 (wordOf s0 s1 s2 s3 b / 2 ^ (b % 64).toNat) 1 == 1
theorem byte_word {b : Int} (h0 : 0 ≤ b) (h1 : b < 256) : b / 64 = 0 ∨ b / 64 = 1 ∨ b / 64 = 2 ∨ b / 64 = 3 := by omega
theorem pow_lt {m : Int} (h : m < 64) : (2 : Int) ^ m.toNat < 18446744073709551616 := by
  have : (2 : Nat) ^ m.toNat < 2 ^ 64 := Nat.pow_lt_pow_right (by decide) (by omega)
  have h2 : ((2 ^ m.toNat : Nat) : Int) < ((2 ^ 64 : Nat) : Int) := Int.ofNat_lt.2 this
  simpa using h2
theorem pow_pos_ (n : Nat) : (0 : Int) ≤ 2 ^ n := by
  have : ((2 ^ n : Nat) : Int) = 2 ^ n := by simp
  rw [← this]
  exact Int.natCast_nonneg _
theorem grown_set {w : World} {g t : Nat} {cs : Array Value} (_h : w.heap[g]? = some (.cells cs t (0, 0))) (i : Nat) (v : Value) : w.grownBy (w.setCell ⟨g, i, none⟩ v) (some g) := by
  refine ⟨rfl, rfl, rfl, by simp [World.setCell], fun k hk hne => ?_⟩
  exact Below.heap_setCell w ⟨g, i, none⟩ v k (fun e => hne (by rw [e]))
theorem grown_drew_ {w w' : World} {row : Option Nat} (h : w.grownBy w' row) : w.grownBy w'.drew row := ⟨h.os, h.tape, h.output, h.size, h.block⟩
theorem set4 {w : World} {g : Nat} {t : TypeId} {a b c d : Value} (h : w.heap[g]? = some (.cells #[a, b, c, d] t (0, 0))) (x y z u : Value) :
    ((((w.setCell ⟨g, 0, none⟩ x).setCell ⟨g, 1, none⟩ y).setCell ⟨g, 2, none⟩ z).setCell ⟨g, 3, none⟩ u).heap[g]? = some (.cells #[x, y, z, u] t (0, 0)) := by
  have := qcv (qcv (qcv (qcv h 0 x) 1 y) 2 z) 3 u
  simpa using this
theorem qdm {w W : World} {g : Nat} {x y z u : Value} (h : Below w.heap.size w W) (hg : w.heap.size ≤ g) :
    Below w.heap.size w ((((W.setCell ⟨g, 0, none⟩ x).setCell ⟨g, 1, none⟩ y).setCell ⟨g, 2, none⟩ z).setCell ⟨g, 3, none⟩ u) :=
  qa9 (qa9 (qa9 (qa9 h hg) hg) hg) hg
theorem list_size (s : ByteArray) : s.data.toList.length = s.size := by simp
theorem pow_wrap {m : Int} (h : m < 64) : IntKind.u64.wrap ((2 : Int) ^ m.toNat) = 2 ^ m.toNat := by
  have h1 := pow_lt h
  have h2 := pow_pos_ m.toNat
  simp [IntKind.wrap, IntKind.bits, IntKind.signed]
  omega
end Go.Proofs.Ytcmipoicnonaeaa.F
end
section
namespace Go.Proofs.Ytcmipoicnonaeaa.F
open Go.RowKit Go.Proofs.YtcmipoicnonaeaaW.PrintWords Go.Proofs.YtcmipoicnonaeaaW.PrintLast Go.Proofs.YtcmipoicnonaeaaW.PrintMore
set_option linter.unusedVariables false
set_option linter.unusedSimpArgs false
set_option maxHeartbeats 2000000 in
set_option maxRecDepth 100000 in
theorem qfh (g : Nat) (s0 s1 s2 s3 a1 : Int) (w : World) (hk : w.heap[g]? = some (.cells #[.int .u64 s0, .int .u64 s1, .int .u64 s2, .int .u64 s3] 24 (0, 0))) (h0 : 0 ≤ a1) (h1 : a1 < 256) :
    Calls Try.prog 77 #[.pointer (some ⟨g, 0, none⟩), .int .u8 a1] w fun e w' => e = .returned (.tuple #[]) ∧ w'.heap[g]? = some (.cells #[.int .u64 (qcp s0 0 a1), .int .u64 (qcp s1 1 a1), .int .u64 (qcp s2 2 a1), .int .u64 (qcp s3 3 a1)] 24 (0, 0)) ∧ w.grownBy w' (some g) := by
  have hm0 : 0 ≤ a1 % 64 := by omega
  have hm1 : a1 % 64 < 64 := by omega
  have hp := pow_wrap hm1
  obtain ⟨m, hm⟩ : ∃ m, a1 % 64 = m := ⟨_, rfl⟩
  have c0 : w.cell? ⟨g, 0, none⟩ = some (.int .u64 s0) := (qa2 hk 0).trans rfl
  have c1 : w.cell? ⟨g, 1, none⟩ = some (.int .u64 s1) := (qa2 hk 1).trans rfl
  have c2 : w.cell? ⟨g, 2, none⟩ = some (.int .u64 s2) := (qa2 hk 2).trans rfl
  have c3 : w.cell? ⟨g, 3, none⟩ = some (.int .u64 s3) := (qa2 hk 3).trans rfl
  have f0 := qa1 hk 0
  have f1 := qa1 hk 1
  have f2 := qa1 hk 2
  have f3 := qa1 hk 3
  have HK := qa0.mk hk
  clear hk
  rcases byte_word h0 h1 with hq | hq | hq | hq
  all_goals
    simp only [qcp, hq, hm]
    rw [hm] at hm0 hm1 hp
    go_enter Try.func77, Try.ntmps77
    go_wp2
    go_region
    all_goals
      go_wp2
      go_end0
      exact ⟨rfl, qa5 (qcv HK.out _ _), grown_drew_ (grown_set HK.out _ _)⟩
end Go.Proofs.Ytcmipoicnonaeaa.F
end
section
namespace Go.Proofs.Ytcmipoicnonaeaa.F
open Go.RowKit Go.Proofs.YtcmipoicnonaeaaW.PrintWords Go.Proofs.YtcmipoicnonaeaaW.PrintLast Go.Proofs.YtcmipoicnonaeaaW.PrintMore
set_option linter.unusedVariables false
set_option linter.unusedSimpArgs false
def qff : List UInt8 → Int × Int × Int × Int → Int × Int × Int × Int
  | [], s => s
  | b :: l, s => qff l (qcp s.1 0 b.toNat, qcp s.2.1 1 b.toNat, qcp s.2.2.1 2 b.toNat, qcp s.2.2.2 3 b.toNat)
def qcz.f (a0 : ByteArray) : Option (Int × Int × Int × Int) := if a0.size ≤ 9223372036854775807 then some (qff a0.data.toList (0, 0, 0, 0)) else none
theorem qck {s : ByteArray} {i : Nat} (h : i < s.size) : s.data.toList.drop i = s[i] :: s.data.toList.drop (i + 1) := by
  have h' : i < s.data.toList.length := by simpa using h
  rw [List.drop_eq_getElem_cons h']
  rfl
set_option maxHeartbeats 2000000 in
set_option maxRecDepth 100000 in
theorem qcz.calls (a0 : ByteArray) (r1 r2 r3 r4 : Int) (w : World) (h : qcz.f a0 = some (r1, r2, r3, r4)) :
    Calls Try.prog 67 #[.string a0] w fun e w' => e = .returned (.agg #[.int .u64 r1, .int .u64 r2, .int .u64 r3, .int .u64 r4]) ∧ Below w.heap.size w w' := by
  unfold qcz.f at h
  by_cases hs : a0.size ≤ 9223372036854775807
  rotate_left
  · rw [if_neg hs] at h; cases h
  rw [if_pos hs] at h
  have H := qa0.mk (Option.some.inj h)
  clear h
  go_enter Try.func67, Try.ntmps67
  go_wp2
  have HR : qa0 (((w.alloc (.cells #[.int .u64 0, .int .u64 0, .int .u64 0, .int .u64 0] 24 (0, 0))).alloc (.cells #[.int .u64 0, .int .u64 0, .int .u64 0, .int .u64 0] 24 (0, 0))).heap[w.heap.size]? = some (.cells #[.int .u64 0, .int .u64 0, .int .u64 0, .int .u64 0] 24 (0, 0))) := ⟨qa3 (qat w _) _⟩
  have HS : qa0 (((w.alloc (.cells #[.int .u64 0, .int .u64 0, .int .u64 0, .int .u64 0] 24 (0, 0))).alloc (.cells #[.int .u64 0, .int .u64 0, .int .u64 0, .int .u64 0] 24 (0, 0))).heap[w.heap.size + 1]? = some (.cells #[.int .u64 0, .int .u64 0, .int .u64 0, .int .u64 0] 24 (0, 0))) := ⟨by rw [← World.size_alloc]; exact qat _ _⟩
  have HB : qa0 (Below w.heap.size w ((w.alloc (.cells #[.int .u64 0, .int .u64 0, .int .u64 0, .int .u64 0] 24 (0, 0))).alloc (.cells #[.int .u64 0, .int .u64 0, .int .u64 0, .int .u64 0] 24 (0, 0)))) := ⟨qa6 (qa6 (Below.refl _ _) _) _⟩
  go_loopg [7] a0.size (fun gk v7 wr => ∃ (i : Nat) (s : Int × Int × Int × Int), v7 = .int .i64 (i : Int) ∧ i + gk = a0.size ∧ qa0 (qff (a0.data.toList.drop i) s = (r1, r2, r3, r4)) ∧ qa0 (wr.heap[w.heap.size]? = some (.cells #[.int .u64 0, .int .u64 0, .int .u64 0, .int .u64 0] 24 (0, 0))) ∧ qa0 (wr.heap[w.heap.size + 1]? = some (.cells #[.int .u64 s.1, .int .u64 s.2.1, .int .u64 s.2.2.1, .int .u64 s.2.2.2] 24 (0, 0))) ∧ qa0 (Below w.heap.size w wr))
  case atStart => exact ⟨0, (0, 0, 0, 0), rfl, by omega, H, HR, HS, HB⟩
  case round =>
    clear H HR HS HB
    obtain ⟨i, s, rfl, hi, HE, HR, HS, HB⟩ := hrel
    cases gk with
    | zero =>
      have c1 : decide ((i : Int) < (a0.size : Int)) = false := decide_eq_false (by omega)
      have c2 : decide (i < a0.size) = false := decide_eq_false (by omega)
      have hE := HE.out
      rw [List.drop_eq_nil_of_le (by rw [list_size]; omega), qff] at hE
      subst hE
      clear hi HE
      have q0 : _ = some (Value.int .u64 r1) := (qa2 HS.out 0).trans rfl
      have q1 : _ = some (Value.int .u64 r2) := (qa2 HS.out 1).trans rfl
      have q2 : _ = some (Value.int .u64 r3) := (qa2 HS.out 2).trans rfl
      have q3 : _ = some (Value.int .u64 r4) := (qa2 HS.out 3).trans rfl
      have p0 : _ = some (Value.int .u64 0) := (qa2 HR.out 0).trans rfl
      have p1 : _ = some (Value.int .u64 0) := (qa2 HR.out 1).trans rfl
      have p2 : _ = some (Value.int .u64 0) := (qa2 HR.out 2).trans rfl
      have p3 : _ = some (Value.int .u64 0) := (qa2 HR.out 3).trans rfl
      have f0 := qa1 HR.out 0
      have f1 := qa1 HR.out 1
      have f2 := qa1 HR.out 2
      have f3 := qa1 HR.out 3
      go_wp2
      refine bodyPost_ret (qc9 rfl (.cell w.heap.size _ _ (0, 0) _ rfl (set4 HR.out _ _ _ _) Try.underlying24 rfl (by kernel_rfl) .nil)) rfl ?_
      exact ⟨rfl, qdm HB.out (Nat.le_refl _)⟩
    | succ gk =>
      have hlt : i < a0.size := by omega
      have c1 : decide ((i : Int) < (a0.size : Int)) = true := decide_eq_true (by omega)
      have c2 : decide (i < a0.size) = true := decide_eq_true hlt
      have hE := HE.out
      rw [qck hlt, qff] at hE
      have HE2 := qa0.mk hE
      have HI := qa0.mk hi
      clear hE HE hi
      go_wp2_with (go_at_call 77; refine (qfh (w.heap.size + 1) s.1 s.2.1 s.2.2.1 s.2.2.2 _ _ HS.out (by omega) (by have := (a0[i]).toNat_lt; omega)).mono ?_; rintro e w' ⟨rfl, hk', hg'⟩)
      go_roundg gk
      case rel => exact ⟨i + 1, _, by go_num, by have := HI.out; omega, HE2, ⟨qd0 HR.out hg' (by simp)⟩, ⟨hk'⟩, ⟨HB.out.grown hg' HB.out.size (fun k e => by cases e; omega)⟩⟩
      case measure => omega
end Go.Proofs.Ytcmipoicnonaeaa.F
end
section
namespace Go.Proofs.Ytcmipoicnonaeaa.F
open Go.RowKit Go.Proofs.YtcmipoicnonaeaaW.PrintWords Go.Proofs.YtcmipoicnonaeaaW.PrintLast Go.Proofs.YtcmipoicnonaeaaW.PrintMore
attribute [local go_sem] qbs qbr qc7 qc0 qbh qbj qbp qbq
set_option linter.unusedVariables false
set_option linter.unusedSimpArgs false
def qci.f (a0 : Int) (a1 : Int) : Option (Int × Int × Int × Int × Int × Int × Int × Int × Int) := (qcz.f (strOfNums (([a1] : List Int)))).bind fun bt106 => (some (0, a0, bt106.1, bt106.2.1, bt106.2.2.1, bt106.2.2.2, 0, 0, 0))
set_option maxHeartbeats 8000000 in
set_option maxRecDepth 100000 in
theorem qci.calls (a0 : Int) (a1 : Int) (r1 : Int) (r2 : Int) (r3 : Int) (r4 : Int) (r5 : Int) (r6 : Int) (r7 : Int) (r8 : Int) (r9 : Int) (w : World) (h : qci.f a0 a1 = some (r1, r2, r3, r4, r5, r6, r7, r8, r9)) :
  Calls Try.prog 53 #[.int .i64 a0, .int .u8 a1] w fun e w' => e = .returned (.agg #[.int .i64 r1, .int .i64 r2, .int .u64 r3, .int .u64 r4, .int .u64 r5, .int .u64 r6, .int .i64 r7, .int .i64 r8, .int .i64 r9]) ∧ Below w.heap.size w w' := by
 have hu67 := Try.underlying67
 have HB := qa0.mk (Below.refl w.heap.size w)
 have H : ((qcz.f (strOfNums (([a1] : List Int)))).bind fun bt106 => (some (0, a0, bt106.1, bt106.2.1, bt106.2.2.1, bt106.2.2.2, 0, 0, 0))) = some (r1, r2, r3, r4, r5, r6, r7, r8, r9) := h
 clear h
 obtain ⟨y103, hy103⟩ : ∃ y_ : List Int, y_ = (([a1] : List Int)) := ⟨_, rfl⟩
 replace H : ((qcz.f (strOfNums y103)).bind fun bt106 => (some (0, a0, bt106.1, bt106.2.1, bt106.2.2.1, bt106.2.2.2, 0, 0, 0))) = some (r1, r2, r3, r4, r5, r6, r7, r8, r9) := by first | (rw [hy103]; with_reducible exact H) | (have H2_ := (Option.bind_some _ _).symm.trans H; rw [hy103]; with_reducible exact H2_) | (have H2_ := (Option.bind_some _ _).symm.trans H; with_reducible exact H2_) | with_reducible exact H | (rw [hy103]; exact H) | exact H
 have Ny103 := qa0.mk hy103
 clear hy103
 replace H := Option.bind_eq_some_iff.mp H
 obtain ⟨⟨t106, t107, t108, t109⟩, A30, H⟩ := H
 replace H : (some (0, a0, t106, t107, t108, t109, 0, 0, 0)) = some (r1, r2, r3, r4, r5, r6, r7, r8, r9) := H
 have A3 := qa0.mk A30
 clear A30
 simp only [Option.some.injEq, Prod.mk.injEq] at H
 obtain ⟨rfl, rfl, rfl, rfl, rfl, rfl, rfl, rfl, rfl⟩ := H
 go_enter Try.func53, Try.ntmps53
 go_wp2_with (first | ((with_reducible refine qb7 (N := 4) rfl ?_); refine qbb ?hg (N := 4) ?hd (cs := #[.int .i64 0, .int .i64 0, .int .u64 0, .int .u64 0, .int .u64 0, .int .u64 0, .int .i64 0, .int .i64 0, .int .i64 0]) (t := 67) ?hr ?_; (case hd => rfl); (case hg => rfl); (case hr => first | (go_simp; done) | (go_simp; rfl)); intro gb102 hg w4 hbox hb; have n0_ := qa0.mk (qap (by repeat (first | (with_reducible first | exact HB.out | apply qa6 | apply qa7 | apply qa8) | exact HB.out)) hb); have n1_ := qa0.mk (hbox); have n2_ := qa0.mk ((by rw [hg]; exact (qaq (by repeat (first | (with_reducible first | exact HB.out | apply qa6 | apply qa7 | apply qa8) | exact HB.out))) : w.heap.size ≤ gb102)); have n3_ := qa0.mk ((by rw [hg]; exact (qaq (by repeat (first | (with_reducible first | exact HB.out | apply qa6 | apply qa7 | apply qa8) | exact HB.out))) : w.heap.size ≤ gb102)); clear HB; have HB := n0_; have BK102 := n1_; have GW102 := n2_; have GE102 := n3_; clear n0_ n1_ n2_ n3_; clear hb hbox hg) | ((with_reducible refine qb7 (N := 7) rfl ?_); refine Kd.R_lit (Kd.int .u8) _ 5 ?hg (N := 7) ?hd (xs := ([a1] : List Int)) (inner := [.int .u8 a1]) (ok := fun _ => True) (okp := fun _ => True) ?hr ?hp (fun _ hk => hk) trivial (Below.refl _ _) (Nat.le_refl _) (by simp) ?_; (case hd => rfl); (case hg => rfl); (case hr => first | (go_simp; done) | (go_simp; rfl)); (case hp => exact (Reps.one (show Kd.M (Kd.int .u8) _ _ _ a1 [.int .u8 a1] from rfl) (Reps.none _ _))); intro v104 w5 ho6 hb hg_ hnew_; clear hg_ hnew_; (first | rw [← Ny103.out] at ho6 | (simp only [Int.reduceToNat] at ho6; rw [← Ny103.out] at ho6)); have n0_ := qa0.mk (Kd.qev ho6 (qaq (by repeat (first | (with_reducible first | exact HB.out | apply qa6 | apply qa7 | apply qa8 | refine qa9 ?_ GE102.out) | exact HB.out)))); have n1_ := qa0.mk (qae (g := gb102) (o := .cells #[.int .i64 0, .int .i64 0, .int .u64 0, .int .u64 0, .int .u64 0, .int .u64 0, .int .i64 0, .int .i64 0, .int .i64 0] 67 (0, 0)) (by (with_reducible repeat (first | refine qa4 ?_ _ | refine qa5 ?_ | refine qa3 ?_ _)); exact BK102.out) hb); have n2_ := qa0.mk (qap (by repeat (first | (with_reducible first | exact HB.out | apply qa6 | apply qa7 | apply qa8 | refine qa9 ?_ GE102.out) | exact HB.out)) hb); clear BK102; clear HB; have HO105 := n0_; have BK102 := n1_; have HB := n2_; clear n0_ n1_ n2_; clear hb ho6; have hcv7 := own_string (P := Try.prog) Try.underlying54 Try.underlying5 Try.underlying9 (Kd.qic HO105.out)) | ((with_reducible refine qbc (f := 67) rfl ?_); refine qcc (some 9) rfl rfl Try.func67 (by kernel_rfl) rfl #[.string (strOfNums y103)] rfl (by (try simp only [List.map_toArray, List.map_cons, List.map_nil]); first | done | rfl | (simp only [List.length_drop, List.length_take]; rfl)) ?_; (with_reducible refine (qcz.calls (strOfNums y103) t106 t107 t108 t109 _ A3.out).mono ?_); rintro e w8 ⟨rfl, hb⟩; refine ⟨_, rfl, ?_⟩; have n0_ := qa0.mk (Kd.qbg (by (with_reducible repeat (first | apply Kd.qch | apply Kd.qcg | apply Kd.qcj)); exact HO105.out) hb); have n1_ := qa0.mk (qae (g := gb102) (o := .cells #[.int .i64 0, .int .i64 0, .int .u64 0, .int .u64 0, .int .u64 0, .int .u64 0, .int .i64 0, .int .i64 0, .int .i64 0] 67 (0, 0)) (by (with_reducible repeat (first | refine qa4 ?_ _ | refine qa5 ?_ | refine qa3 ?_ _)); exact BK102.out) hb); have n2_ := qa0.mk (qap (by repeat (first | (with_reducible first | exact HB.out | apply qa6 | apply qa7 | apply qa8 | refine qa9 ?_ GE102.out) | exact HB.out)) hb); clear HO105; clear BK102; clear HB; have HO105 := n0_; have BK102 := n1_; have HB := n2_; clear n0_ n1_ n2_; (try clear hb); (try clear hb2); (try clear hk); (try clear hi); have hcz9_0 : w8.cell? ⟨gb102, 0, none⟩ = some (.int .i64 0) := (qa2 BK102.out 0).trans rfl; have hcz9_1 : w8.cell? ⟨gb102, 1, none⟩ = some (.int .i64 0) := (qa2 BK102.out 1).trans rfl; have hcz9_2 : w8.cell? ⟨gb102, 2, none⟩ = some (.int .u64 0) := (qa2 BK102.out 2).trans rfl; have hcz9_3 : w8.cell? ⟨gb102, 3, none⟩ = some (.int .u64 0) := (qa2 BK102.out 3).trans rfl; have hcz9_4 : w8.cell? ⟨gb102, 4, none⟩ = some (.int .u64 0) := (qa2 BK102.out 4).trans rfl; have hcz9_5 : w8.cell? ⟨gb102, 5, none⟩ = some (.int .u64 0) := (qa2 BK102.out 5).trans rfl; have hcz9_6 : w8.cell? ⟨gb102, 6, none⟩ = some (.int .i64 0) := (qa2 BK102.out 6).trans rfl; have hcz9_7 : w8.cell? ⟨gb102, 7, none⟩ = some (.int .i64 0) := (qa2 BK102.out 7).trans rfl; have hcz9_8 : w8.cell? ⟨gb102, 8, none⟩ = some (.int .i64 0) := (qa2 BK102.out 8).trans rfl; have hfz9_0 := qa1 BK102.out 0; have hfz9_1 := qa1 BK102.out 1; have hfz9_2 := qa1 BK102.out 2; have hfz9_3 := qa1 BK102.out 3; have hfz9_4 := qa1 BK102.out 4; have hfz9_5 := qa1 BK102.out 5; have hfz9_6 := qa1 BK102.out 6; have hfz9_7 := qa1 BK102.out 7; have hfz9_8 := qa1 BK102.out 8))
 refine bodyPost_ret (results_cell_row rfl _ _ gb102 67 #[.int .i64 0, .int .i64 a0, .int .u64 t106, .int .u64 t107, .int .u64 t108, .int .u64 t109, .int .i64 0, .int .i64 0, .int .i64 0] (0, 0) _ rfl (by (with_reducible repeat (first | refine qa4 ?_ _ | refine qa5 ?_ | refine qa3 ?_ _)); refine qaa (cs := #[.int .i64 0, .int .i64 a0, .int .u64 t106, .int .u64 t107, .int .u64 t108, .int .u64 t109, .int .i64 0, .int .i64 0, .int .i64 0]) ?_ 8 _ rfl; (with_reducible repeat (first | refine qa4 ?_ _ | refine qa5 ?_ | refine qa3 ?_ _)); refine qaa (cs := #[.int .i64 0, .int .i64 a0, .int .u64 t106, .int .u64 t107, .int .u64 t108, .int .u64 t109, .int .i64 0, .int .i64 0, .int .i64 0]) ?_ 7 _ rfl; (with_reducible repeat (first | refine qa4 ?_ _ | refine qa5 ?_ | refine qa3 ?_ _)); refine qaa (cs := #[.int .i64 0, .int .i64 a0, .int .u64 t106, .int .u64 t107, .int .u64 t108, .int .u64 t109, .int .i64 0, .int .i64 0, .int .i64 0]) ?_ 6 _ rfl; (with_reducible repeat (first | refine qa4 ?_ _ | refine qa5 ?_ | refine qa3 ?_ _)); refine qaa (cs := #[.int .i64 0, .int .i64 a0, .int .u64 t106, .int .u64 t107, .int .u64 t108, .int .u64 0, .int .i64 0, .int .i64 0, .int .i64 0]) ?_ 5 _ rfl; (with_reducible repeat (first | refine qa4 ?_ _ | refine qa5 ?_ | refine qa3 ?_ _)); refine qaa (cs := #[.int .i64 0, .int .i64 a0, .int .u64 t106, .int .u64 t107, .int .u64 0, .int .u64 0, .int .i64 0, .int .i64 0, .int .i64 0]) ?_ 4 _ rfl; (with_reducible repeat (first | refine qa4 ?_ _ | refine qa5 ?_ | refine qa3 ?_ _)); refine qaa (cs := #[.int .i64 0, .int .i64 a0, .int .u64 t106, .int .u64 0, .int .u64 0, .int .u64 0, .int .i64 0, .int .i64 0, .int .i64 0]) ?_ 3 _ rfl; (with_reducible repeat (first | refine qa4 ?_ _ | refine qa5 ?_ | refine qa3 ?_ _)); refine qaa (cs := #[.int .i64 0, .int .i64 a0, .int .u64 0, .int .u64 0, .int .u64 0, .int .u64 0, .int .i64 0, .int .i64 0, .int .i64 0]) ?_ 2 _ rfl; (with_reducible repeat (first | refine qa4 ?_ _ | refine qa5 ?_ | refine qa3 ?_ _)); refine qaa (cs := #[.int .i64 0, .int .i64 0, .int .u64 0, .int .u64 0, .int .u64 0, .int .u64 0, .int .i64 0, .int .i64 0, .int .i64 0]) ?_ 1 _ rfl; (with_reducible repeat (first | refine qa4 ?_ _ | refine qa5 ?_ | refine qa3 ?_ _)); refine qaa (cs := #[.int .i64 0, .int .i64 0, .int .u64 0, .int .u64 0, .int .u64 0, .int .u64 0, .int .i64 0, .int .i64 0, .int .i64 0]) ?_ 0 _ rfl; (with_reducible repeat (first | refine qa4 ?_ _ | refine qa5 ?_ | refine qa3 ?_ _)); exact BK102.out) Try.underlying67 rfl (by kernel_rfl)) rfl ?_
 exact ⟨by first | rfl | (simp only [wrap_wrap]; done) | (simp only [wrap_wrap]; rfl) | (simp [qah, qai] <;> rfl) | (simp [*, qah, qai] <;> rfl), by repeat (first | (with_reducible first | exact HB.out | apply qa6 | apply qa7 | apply qa8 | refine qa9 ?_ GE102.out) | exact HB.out)⟩
end Go.Proofs.Ytcmipoicnonaeaa.F
end
section
namespace Go.Proofs.Ytcmipoicnonaeaa.F
open Go.RowKit Go.Proofs.YtcmipoicnonaeaaW.PrintWords Go.Proofs.YtcmipoicnonaeaaW.PrintLast Go.Proofs.YtcmipoicnonaeaaW.PrintMore
attribute [local go_sem] qbs qbr qc7 qc0 qbh qbj qbp qbq
set_option linter.unusedVariables false
set_option linter.unusedSimpArgs false
def qb8.l0 : Nat → ByteArray → Int → Int → Int → Option (Int × Int)
 | 0, _, _, _, _ => none
 | k + 1, x0, x1, x6, x7 => if x1 < (x0.size : Int) then (if 0 ≤ x1 then (if (bt x0 x1) ≥ 48 then (if (bt x0 x1) ≤ 57 then (qb8.l0 k x0 (wrap64 (x1 + 1)) (mn (wrap64 ((wrap64 (10 * x6)) + (((bt x0 x1) - 48) % 256))) 256) x7) else (if x1 = x7 then (some ((-1), x1)) else (some (x6, x1)))) else (if x1 = x7 then (some ((-1), x1)) else (some (x6, x1)))) else (none)) else (if x1 = x7 then (some ((-1), x1)) else (some (x6, x1)))
def qb8.f (k : Nat) (a0 : ByteArray) (a1 : Int) : Option (Int × Int) := qb8.l0 k a0 a1 0 a1
theorem qb8.qcs : ∀ k, (∀ y0 y1 y2 y3, LeO (qb8.l0 k y0 y1 y2 y3) (qb8.l0 (k + 1) y0 y1 y2 y3))
 | 0 => fun _ _ _ _ r h => by simp [qb8.l0] at h
 | k + 1 => by
  have ih0 := qb8.qcs k
  ·intro y0 y1 y2 y3
   unfold qb8.l0
   repeat' first
   | (with_reducible exact ih0 _ _ _ _)
   | (with_reducible exact LeO.refl _)
   | (with_reducible exact LeO.none _)
   | (with_reducible refine LeO.ite ?_ ?_)
   | (with_reducible refine LeO.bind ?_ (fun _ => ?_))
   | exact ih0 _ _ _ _
   | exact LeO.none _
   | refine LeO.ite ?_ ?_
   | refine LeO.bind ?_ (fun _ => ?_)
theorem qb8.mono : ∀ a0 a1 k, LeO (qb8.f k a0 a1) (qb8.f (k + 1) a0 a1) := by
 intro a0 a1 k
 have ih0 := qb8.qcs k
 unfold qb8.f
 repeat' first
   | (with_reducible exact ih0 _ _ _ _)
   | (with_reducible exact LeO.refl _)
   | (with_reducible exact LeO.none _)
   | (with_reducible refine LeO.ite ?_ ?_)
   | (with_reducible refine LeO.bind ?_ (fun _ => ?_))
   | exact ih0 _ _ _ _
   | exact LeO.none _
   | refine LeO.ite ?_ ?_
   | refine LeO.bind ?_ (fun _ => ?_)
set_option maxHeartbeats 8000000 in
set_option maxRecDepth 100000 in
theorem qb8.calls (k : Nat) (a0 : ByteArray) (a1 : Int) (r1 : Int) (r2 : Int) (w : World) (h : qb8.f k a0 a1 = some (r1, r2)) :
  Calls Try.prog 72 #[.string a0, .int .i64 a1] w fun e w' => e = .returned (.tuple #[.int .i64 r1, .int .i64 r2]) ∧ Below w.heap.size w w' := by
 have HB := qa0.mk (Below.refl w.heap.size w)
 have H : (qb8.l0 k a0 a1 0 a1) = some (r1, r2) := h
 clear h
 have H' := qa0.mk H
 clear H
 go_enter Try.func72, Try.ntmps72
 go_wp2
 go_loopg [1, 6] k (fun kq v1 v6 w' => ∃ (x1_1 : Int) (x6_1 : Int), v1 = .int .i64 x1_1 ∧ v6 = .int .i64 x6_1 ∧ qa0 (qb8.l0 kq a0 x1_1 x6_1 a1 = some (r1, r2)) ∧ qa0 (kq ≤ k) ∧ qa0 (Below w.heap.size w w'))
 case atStart => exact ⟨(a1), (0), (by first | rfl | (simp; done) | (simp [*]; done) | (exfalso; simp only [decide_eq_true_eq] at *; omega)), (by first | rfl | (simp; done) | (simp [*]; done) | (exfalso; simp only [decide_eq_true_eq] at *; omega)), H', ⟨Nat.le_refl _⟩, ⟨by repeat (first | (with_reducible first | exact HB.out | apply qa6 | apply qa7 | apply qa8) | exact HB.out)⟩⟩
 case round =>
  clear H'
  try clear p2
  obtain ⟨x1_1, x6_1, rfl, rfl, HA, HK1, HB⟩ := hrel
  cases gk with
  | zero => exact absurd HA.out (by simp [qb8.l0])
  | succ k1 =>
   have H := HA.out
   clear HA
   simp only [qb8.l0] at H
   by_cases c3 : x1_1 < (a0.size : Int)
   ·rw [if_pos c3] at H
    have c3b0 : decide (x1_1 < (a0.size : Int)) = true := decide_eq_true c3
    clear c3
    by_cases c4 : 0 ≤ x1_1
    ·rw [if_pos c4] at H
     have c4b0 : decide (0 ≤ x1_1) = true := decide_eq_true c4
     clear c4
     by_cases c6 : (bt a0 x1_1) ≥ 48
     ·rw [if_pos c6] at H
      have c6b0 : decide (48 ≤ (bt a0 x1_1)) = true := decide_eq_true c6
      clear c6
      by_cases c8 : (bt a0 x1_1) ≤ 57
      ·rw [if_pos c8] at H
       have c8b0 : decide ((bt a0 x1_1) ≤ 57) = true := decide_eq_true c8
       clear c8
       obtain ⟨ji10, hji10⟩ : ∃ j_ : Int, (mn (wrap64 ((wrap64 (10 * x6_1)) + (((bt a0 x1_1) - 48) % 256))) 256) = j_ := ⟨_, rfl⟩
       replace H : (qb8.l0 k1 a0 (wrap64 (x1_1 + 1)) ji10 a1) = some (r1, r2) := by first | (rw [hji10] at H; exact H) | (simp only [hji10] at H ⊢; exact H)
       have hji10_ : (if 256 < (wrap64 ((wrap64 (10 * x6_1)) + (((bt a0 x1_1) - 48) % 256))) then 256 else (wrap64 ((wrap64 (10 * x6_1)) + (((bt a0 x1_1) - 48) % 256)))) = ji10 := hji10
       have H' := qa0.mk H
       clear H
       have p5 : 0 ≤ (x1_1 : Int) := of_decide_eq_true (by first | (with_reducible assumption) | assumption)
       have q5 : x1_1 < (a0.size : Int) := of_decide_eq_true (by first | (with_reducible assumption) | assumption)
       have hx5 := qbz a0 x1_1
       replace p5 := eq_true p5
       replace q5 := eq_true q5
       have p7 : 0 ≤ (x1_1 : Int) := of_decide_eq_true (by first | (with_reducible assumption) | assumption)
       have q7 : x1_1 < (a0.size : Int) := of_decide_eq_true (by first | (with_reducible assumption) | assumption)
       have hx7 := qbz a0 x1_1
       replace p7 := eq_true p7
       replace q7 := eq_true q7
       have p9 : 0 ≤ (x1_1 : Int) := of_decide_eq_true (by first | (with_reducible assumption) | assumption)
       have q9 : x1_1 < (a0.size : Int) := of_decide_eq_true (by first | (with_reducible assumption) | assumption)
       have hx9 := qbz a0 x1_1
       replace p9 := eq_true p9
       replace q9 := eq_true q9
       go_wp2
       go_roundg k1
       case measure => have := HK1.out; omega
       case rel => exact ⟨(wrap64 (x1_1 + 1)), (ji10), (by first | rfl | (simp; done) | (simp [*]; done) | (exfalso; simp only [decide_eq_true_eq] at *; omega)), (by first | rfl | (simp; done) | (simp only [← hji10] <;> (first | rfl | simp)) | (simp [*]; done)), (by first | exact H' | (simp only [hji10]; exact H')), ⟨by have := HK1.out; omega⟩, ⟨by repeat (first | (with_reducible first | exact HB.out | apply qa6 | apply qa7 | apply qa8) | exact HB.out)⟩⟩
      ·rw [if_neg c8] at H
       have c8b0 : decide ((bt a0 x1_1) ≤ 57) = false := decide_eq_false c8
       clear c8
       by_cases c11 : x1_1 = a1
       ·rw [if_pos c11] at H
        have c11b0 : (x1_1 == a1) = true := beq_iff_eq.mpr c11
        have c11b1 : (x1_1 != a1) = false := bne_eq_false_iff_eq.mpr c11
        clear c11
        simp only [Option.some.injEq, Prod.mk.injEq] at H
        obtain ⟨rfl, rfl⟩ := H
        have p5 : 0 ≤ (x1_1 : Int) := of_decide_eq_true (by first | (with_reducible assumption) | assumption)
        have q5 : x1_1 < (a0.size : Int) := of_decide_eq_true (by first | (with_reducible assumption) | assumption)
        have hx5 := qbz a0 x1_1
        replace p5 := eq_true p5
        replace q5 := eq_true q5
        have p7 : 0 ≤ (x1_1 : Int) := of_decide_eq_true (by first | (with_reducible assumption) | assumption)
        have q7 : x1_1 < (a0.size : Int) := of_decide_eq_true (by first | (with_reducible assumption) | assumption)
        have hx7 := qbz a0 x1_1
        replace p7 := eq_true p7
        replace q7 := eq_true q7
        go_wp2
        go_ret2
        exact ⟨by first | rfl | (simp only [wrap_wrap]; done) | (simp only [wrap_wrap]; rfl) | (simp [qah, qai] <;> rfl) | (simp [*, qah, qai] <;> rfl), by repeat (first | (with_reducible first | exact HB.out | apply qa6 | apply qa7 | apply qa8) | exact HB.out)⟩
       ·rw [if_neg c11] at H
        have c11b0 : (x1_1 == a1) = false := beq_eq_false_iff_ne.mpr c11
        have c11b1 : (x1_1 != a1) = true := bne_iff_ne.mpr c11
        simp only [Option.some.injEq, Prod.mk.injEq] at H
        obtain ⟨rfl, rfl⟩ := H
        have p5 : 0 ≤ (x1_1 : Int) := of_decide_eq_true (by first | (with_reducible assumption) | assumption)
        have q5 : x1_1 < (a0.size : Int) := of_decide_eq_true (by first | (with_reducible assumption) | assumption)
        have hx5 := qbz a0 x1_1
        replace p5 := eq_true p5
        replace q5 := eq_true q5
        have p7 : 0 ≤ (x1_1 : Int) := of_decide_eq_true (by first | (with_reducible assumption) | assumption)
        have q7 : x1_1 < (a0.size : Int) := of_decide_eq_true (by first | (with_reducible assumption) | assumption)
        have hx7 := qbz a0 x1_1
        replace p7 := eq_true p7
        replace q7 := eq_true q7
        go_wp2
        go_ret2
        exact ⟨by first | rfl | (simp only [wrap_wrap]; done) | (simp only [wrap_wrap]; rfl) | (simp [qah, qai] <;> rfl) | (simp [*, qah, qai] <;> rfl), by repeat (first | (with_reducible first | exact HB.out | apply qa6 | apply qa7 | apply qa8) | exact HB.out)⟩
     ·rw [if_neg c6] at H
      have c6b0 : decide (48 ≤ (bt a0 x1_1)) = false := decide_eq_false c6
      clear c6
      by_cases c12 : x1_1 = a1
      ·rw [if_pos c12] at H
       have c12b0 : (x1_1 == a1) = true := beq_iff_eq.mpr c12
       have c12b1 : (x1_1 != a1) = false := bne_eq_false_iff_eq.mpr c12
       clear c12
       simp only [Option.some.injEq, Prod.mk.injEq] at H
       obtain ⟨rfl, rfl⟩ := H
       have p5 : 0 ≤ (x1_1 : Int) := of_decide_eq_true (by first | (with_reducible assumption) | assumption)
       have q5 : x1_1 < (a0.size : Int) := of_decide_eq_true (by first | (with_reducible assumption) | assumption)
       have hx5 := qbz a0 x1_1
       replace p5 := eq_true p5
       replace q5 := eq_true q5
       go_wp2
       go_ret2
       exact ⟨by first | rfl | (simp only [wrap_wrap]; done) | (simp only [wrap_wrap]; rfl) | (simp [qah, qai] <;> rfl) | (simp [*, qah, qai] <;> rfl), by repeat (first | (with_reducible first | exact HB.out | apply qa6 | apply qa7 | apply qa8) | exact HB.out)⟩
      ·rw [if_neg c12] at H
       have c12b0 : (x1_1 == a1) = false := beq_eq_false_iff_ne.mpr c12
       have c12b1 : (x1_1 != a1) = true := bne_iff_ne.mpr c12
       simp only [Option.some.injEq, Prod.mk.injEq] at H
       obtain ⟨rfl, rfl⟩ := H
       have p5 : 0 ≤ (x1_1 : Int) := of_decide_eq_true (by first | (with_reducible assumption) | assumption)
       have q5 : x1_1 < (a0.size : Int) := of_decide_eq_true (by first | (with_reducible assumption) | assumption)
       have hx5 := qbz a0 x1_1
       replace p5 := eq_true p5
       replace q5 := eq_true q5
       go_wp2
       go_ret2
       exact ⟨by first | rfl | (simp only [wrap_wrap]; done) | (simp only [wrap_wrap]; rfl) | (simp [qah, qai] <;> rfl) | (simp [*, qah, qai] <;> rfl), by repeat (first | (with_reducible first | exact HB.out | apply qa6 | apply qa7 | apply qa8) | exact HB.out)⟩
    ·rw [if_neg c4] at H
     exact absurd H (by simp)
   ·rw [if_neg c3] at H
    have c3b0 : decide (x1_1 < (a0.size : Int)) = false := decide_eq_false c3
    clear c3
    by_cases c13 : x1_1 = a1
    ·rw [if_pos c13] at H
     have c13b0 : (x1_1 == a1) = true := beq_iff_eq.mpr c13
     have c13b1 : (x1_1 != a1) = false := bne_eq_false_iff_eq.mpr c13
     clear c13
     simp only [Option.some.injEq, Prod.mk.injEq] at H
     obtain ⟨rfl, rfl⟩ := H
     go_wp2
     go_ret2
     exact ⟨by first | rfl | (simp only [wrap_wrap]; done) | (simp only [wrap_wrap]; rfl) | (simp [qah, qai] <;> rfl) | (simp [*, qah, qai] <;> rfl), by repeat (first | (with_reducible first | exact HB.out | apply qa6 | apply qa7 | apply qa8) | exact HB.out)⟩
    ·rw [if_neg c13] at H
     have c13b0 : (x1_1 == a1) = false := beq_eq_false_iff_ne.mpr c13
     have c13b1 : (x1_1 != a1) = true := bne_iff_ne.mpr c13
     simp only [Option.some.injEq, Prod.mk.injEq] at H
     obtain ⟨rfl, rfl⟩ := H
     go_wp2
     go_ret2
     exact ⟨by first | rfl | (simp only [wrap_wrap]; done) | (simp only [wrap_wrap]; rfl) | (simp [qah, qai] <;> rfl) | (simp [*, qah, qai] <;> rfl), by repeat (first | (with_reducible first | exact HB.out | apply qa6 | apply qa7 | apply qa8) | exact HB.out)⟩
end Go.Proofs.Ytcmipoicnonaeaa.F
end
