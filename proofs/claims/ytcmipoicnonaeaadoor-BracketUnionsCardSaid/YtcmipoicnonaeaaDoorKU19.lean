/- Texts of this claim, 19 of 19: Cells, SetRow. -/
import Derived.Test.YtcmipoicnonaeaaDoorRows
import Derived.WalkKit
import Derived.ProofKit
import Derived.OpenShut
import Derived.ShutString
import Derived.ChangeOld
import Derived.Below
import Derived.SizedLaws
import Derived.Lay
import Derived.LaidLaws
import Derived.LaidMore
import Derived.Test.YtcmipoicnonaeaaDoorKU10
import Derived.Test.YtcmipoicnonaeaaDoorKU13
import Derived.Test.YtcmipoicnonaeaaDoorKU17
section
namespace Go.Proofs.YtcmipoicnonaeaaDoor.F
open Go.ChangeShapes Go.WideShapes Go.ChangeAt Go.RowKit
set_option linter.unusedVariables false
def tableLaid : List (String × DataW Unit) := [("math/bits.deBruijn64tab", Rows.laid_math_bits_deBruijn64tab)]
theorem table_data : (Rows.laid_math_bits_deBruijn64tab : DataW Unit) = .agg (dbTab.map fun n => .lit (.int .u8 n)) := rfl
theorem db_cell {W : World} (h : laidMetH Tryd.prog tableLaid W) (r : Nat) (hr : r < 64) : W.cell? ⟨0, r, none⟩ = some (.int .u8 (dbTab.getD r 0)) := by
  rw [MakeChecks.laidMetH_plain _ _ _ (by kernel_rfl)] at h
  obtain ⟨ps, ⟨g, t, cs, fuel, p, q, hg, ht, hv, hd, _, _⟩, _, _⟩ := h
  obtain rfl := Option.some.inj ((show Tryd.prog.globalNamed "math/bits.deBruijn64tab" = some 0 by kernel_rfl).symm.trans hg)
  obtain rfl := Option.some.inj ((show (Tryd.prog.globals[0]?).map (·.type) = some 123 by kernel_rfl).symm.trans ht)
  rw [table_data] at hd
  obtain ⟨xs, m, _, ex, _, hl, hel⟩ := DataW.trod_array (show Tryd.prog.underlying 123 = some (.array 64 5) by kernel_rfl) hd
  have c5 : Tryd.prog.cellsOf 5 = 1 := by kernel_rfl
  have hE := hel r hr
  rw [c5, Nat.mul_one, List.getElem?_eq_getElem (by omega)] at hE
  obtain ⟨z, e1, e2, _⟩ := DataW.trod_int Tryd.underlying5 hE
  have hlen : dbTab.length = 64 := rfl
  have e3 : (xs.map (·.1)) = dbTab.map fun n => .lit (.int .u8 n) := (DataW.agg.inj (Prod.mk.inj ex).1).symm
  have e4 : (xs.map (·.1))[r]? = (dbTab.map fun n => (DataW.lit (.int .u8 n) : DataW Unit))[r]? := by rw [e3]
  rw [List.getElem?_map, List.getElem?_map, List.getElem?_eq_getElem (by omega : r < xs.length), List.getElem?_eq_getElem (by omega : r < dbTab.length), e2] at e4
  have hz : z = dbTab.getD r 0 := by
    simp only [Option.map_some, Option.some.injEq, DataW.lit.injEq, Lit.int.injEq, true_and] at e4
    rw [e4, List.getD, List.getElem?_eq_getElem (by omega : r < dbTab.length)]; rfl
  rw [World.var?_cell hg hv r, ← hz]
  have : cs.toList[r]? = some (.int .u8 z) := by
    have h0 : ((cs.toList.drop r).take 1)[0]? = some (.int .u8 z) := by rw [e1]; rfl
    simpa using h0
  simpa using this
theorem cell_lt {W : World} {a : Addr} {v : Value} (h : W.cell? a = some v) : a.block < W.heap.size := World.block_lt_of_cell? W a h
theorem md_of {W : World} (h : laidMetH Tryd.prog tableLaid W) (hs : W.ShapedOpen Tryd.prog) : MD W := by
  obtain ⟨m, hm⟩ := Tryd.laysM219.s1_3 W hs
  exact ⟨⟨⟨m, hm⟩, cell_lt hm⟩, fun i hi => db_cell h i hi, cell_lt (db_cell h 0 (by decide))⟩
theorem returns_both {H : Type} {enc : TypeId × Value → H} {a : Assume} {C : Checked} {os : Os} {f : FuncId} {fn : Func} {s : ChangeSpec} {conds : List PathCond} {apart fresh handsOn again : Bool} {X : World → Array Value → Prop}
    (hX : ∀ (w w' : World) (args : Array Value), w.heap = w'.heap → X w args → X w' args) (own : ownKnob C.prog.godebug = none) (started : os.Started) (noInit : C.prog.inits.idxOf? f = none) (hfn : C.prog.funcs[f]? = some fn)
    (witness : ∃ (w : World) (tape : Tape) (i : Input), w.os = os ∧ (w.forCall tape i).Shaped C.prog ∧ i.vars = [] ∧ Input.okWide C.prog (w.forCall tape i) .any w.heap.size f i ∧
      ((s.pre enc C.prog fn conds apart (w.forCall tape i).memory i.args ∧ X (w.forCall tape i).memory i.args) ∧ sizedMet enc C.prog fn (OpenSpec.ofChange s) apart (w.forCall tape i).memory i.args) ∧ a.holds C.prog (lone (Frame.enter C.prog f i.args .normal) [] (w.forCall tape i)))
    (contract : ∀ (W : World) (base : Nat) (args : Array Value) (ds gs : List (DataW H)) (before : List MemPlace), (∀ (j : Nat) t v, fn.params[j]? = some t → args[j]? = some v → Value.okWide C.prog W .any base t v) →
      DataW.Whole enc C.prog fn.params.toList s.vars apart W args.toList ds gs before → conds.all (PathCond.test C.prog ⟨fn.params.toList, ds, s.plain.varTypes C.prog, gs⟩) = true →
      (DataW.weightsEach C.prog (fn.params.toList ++ s.plain.varTypes C.prog) (ds ++ gs)).all (· ≤ reachBytes) = true → X W args → W.ShapedOpen C.prog →
      Calls C.prog f args W fun e W' => ∃ v, e = .returned v ∧ s.post enc C.prog fn apart fresh handsOn again W args v W') :
    ReturnsInHanded a C os f .any (fun w args => (s.pre enc C.prog fn conds apart w args ∧ X w args) ∧ sizedMet enc C.prog fn (OpenSpec.ofChange s) apart w args) (s.post enc C.prog fn apart fresh handsOn again) :=
  returnsInHanded_of_calls own started noInit witness fun w tape i _ hsh _ hok hpre _ => by
    rcases hok with ⟨_, _, _, fn', hfn', _, _, _, _, hval⟩
    rcases Option.some.inj (hfn'.symm.trans hfn)
    rcases hpre with ⟨⟨⟨ds, gs, before, hw, hc⟩, hx⟩, hz⟩
    have hr := contract (w.forCall tape i) w.heap.size i.args ds gs before hval (DataW.Whole.of_heap (w' := w.forCall tape i) (by rfl) hw) hc (hz.weights hw) (hX _ _ _ (by rfl) hx) hsh
    exact hr.mono fun e W' ⟨v, he, hp⟩ => by rw [he]; exact ChangeSpec.post_blind hp
end Go.Proofs.YtcmipoicnonaeaaDoor.F
end
section
namespace Go.Proofs.YtcmipoicnonaeaaDoor.F
open Go.ChangeShapes Go.WideShapes Go.ChangeAt Go.RowKit
set_option linter.unusedVariables false
section
variable {H : Type} {enc : TypeId × Value → H} {P : Program} {k e : TypeId} {W : World} {base : Nat} {sp : Nat → Bool} {held : Bool}
theorem wf_w64 {a : Int} (h : (Lit.int .u64 a).wf = true) : w64 a := by
  simp [Lit.wf, IntKind.min, IntKind.max, IntKind.signed, IntKind.bits] at h
  unfold w64
  omega
theorem set_cells (set_under : P.underlying k = some (.array 4 e)) (set_size : P.cellsOf k = 4) {r : Reach} {b0 : Nat} {v : Value} (h : Value.okWide P W r b0 k v) : ∃ c0 c1 c2 c3, v = .agg #[c0, c1, c2, c3] := by
  simp only [Value.okWide, set_under] at h
  obtain ⟨cs, h1, h2, _⟩ := h
  rw [set_size] at h2
  obtain ⟨l⟩ := cs
  match l, h2 with
  | [c0, c1, c2, c3], _ => exact ⟨c0, c1, c2, c3, h1⟩
def setD {H : Type} (s : S4) : DataW H := .agg [.lit (.int .u64 s.1), .lit (.int .u64 s.2.1), .lit (.int .u64 s.2.2.1), .lit (.int .u64 s.2.2.2)]
def setV (s : S4) : Value := .agg #[.int .u64 s.1, .int .u64 s.2.1, .int .u64 s.2.2.1, .int .u64 s.2.2.2]
def setWf (s : S4) : Prop := (Lit.int .u64 s.1).wf = true ∧ (Lit.int .u64 s.2.1).wf = true ∧ (Lit.int .u64 s.2.2.1).wf = true ∧ (Lit.int .u64 s.2.2.2).wf = true
theorem setWf.ok {s : S4} (h : setWf s) : okS s := ⟨wf_w64 h.1, wf_w64 h.2.1, wf_w64 h.2.2.1, wf_w64 h.2.2.2⟩
theorem open_set4 (set_under : P.underlying k = some (.array 4 e)) (set_size : P.cellsOf k = 4) (word_one : P.cellsOf e = 1) (word_under : P.underlying e = some (.int .u64)) {r : Reach} {b0 : Nat} {v : Value} {d : DataW H} {ps : List MemPlace} (hval : Value.okWide P W r b0 k v) (hd : DataW.Trod enc P W base sp held k v d ps) :
    ∃ s : S4, v = setV s ∧ d = setD s ∧ ps = [] ∧ setWf s := by
  obtain ⟨c0, c1, c2, c3, rfl⟩ := set_cells set_under set_size hval
  obtain ⟨fuel, hf⟩ := hd
  cases fuel with
  | zero => simp [DataW.trod] at hf
  | succ n =>
    rw [DataW.trod_step] at hf
    unfold DataW.trodStep at hf
    simp only [set_under, Value.cells] at hf
    rw [if_pos (by rw [set_size]; rfl)] at hf
    simp only [Option.map_eq_some_iff] at hf
    obtain ⟨xs, hx, e1⟩ := hf
    rw [show List.range 4 = [0, 1, 2, 3] from rfl, List.mapM_cons, List.mapM_cons, List.mapM_cons, List.mapM_cons, List.mapM_nil] at hx
    simp only [bind, Option.bind_eq_some_iff, pure, Option.some.injEq, word_one] at hx
    obtain ⟨y0, h0, _, ⟨y1, h1, _, ⟨y2, h2, _, ⟨y3, h3, _, rfl, rfl⟩, rfl⟩, rfl⟩, rfl⟩ := hx
    obtain ⟨a, ea, rfl, wa⟩ := DataW.trod_int word_under h0
    obtain ⟨b, eb, rfl, wb⟩ := DataW.trod_int word_under h1
    obtain ⟨c, ec, rfl, wc⟩ := DataW.trod_int word_under h2
    obtain ⟨d', ed, rfl, wd⟩ := DataW.trod_int word_under h3
    simp at ea eb ec ed
    subst ea; subst eb; subst ec; subst ed
    simp only [Prod.mk.injEq] at e1
    exact ⟨(a, b, c, d'), rfl, by rw [← e1.1]; rfl, by rw [← e1.2]; rfl, wa, wb, wc, wd⟩
theorem shut_set4 (set_under : P.underlying k = some (.array 4 e)) (set_size : P.cellsOf k = 4) (word_one : P.cellsOf e = 1) (word_under : P.underlying e = some (.int .u64)) {s : S4} (h : setWf s) : DataW.Trod enc P W base sp held k (setV s) (setD s) [] :=
  ⟨2, by
    obtain ⟨s0, s1, s2, s3⟩ := s
    obtain ⟨w0, w1, w2, w3⟩ := h
    simp only at w0 w1 w2 w3
    show DataW.trod enc P W base sp held (1 + 1) k [.int .u64 s0, .int .u64 s1, .int .u64 s2, .int .u64 s3] = _
    rw [DataW.trod_step]
    unfold DataW.trodStep
    simp only [set_under]
    rw [if_pos (by rw [set_size]; rfl), show List.range 4 = [0, 1, 2, 3] from rfl, List.mapM_cons, List.mapM_cons, List.mapM_cons, List.mapM_cons, List.mapM_nil]
    simp [word_one, DataW.trod, word_under, w0, w1, w2, w3, setD]⟩
end
theorem set_under : Tryd.prog.underlying 24 = some (.array 4 22) := by kernel_rfl
theorem word_one : Tryd.prog.cellsOf 22 = 1 := by kernel_rfl
theorem set_size : Tryd.prog.cellsOf 24 = 4 := by kernel_rfl
set_option maxRecDepth 100000 in
theorem open_set {H : Type} {enc : TypeId × Value → H} {W : World} {base : Nat} {sp : Nat → Bool} {held : Bool} {r : Reach} {b0 : Nat} {v : Value} {d : DataW H} {ps : List MemPlace} (hval : Value.okWide Tryd.prog W r b0 24 v) (hd : DataW.Trod enc Tryd.prog W base sp held 24 v d ps) :
    ∃ s : S4, v = setV s ∧ d = setD s ∧ ps = [] ∧ setWf s := open_set4 set_under set_size word_one Tryd.underlying22 hval hd
set_option maxRecDepth 100000 in
theorem shut_set {H : Type} {enc : TypeId × Value → H} {W : World} {base : Nat} {sp : Nat → Bool} {held : Bool} {s : S4} (h : setWf s) : DataW.Trod enc Tryd.prog W base sp held 24 (setV s) (setD s) [] := shut_set4 set_under set_size word_one Tryd.underlying22 h
end Go.Proofs.YtcmipoicnonaeaaDoor.F
end
