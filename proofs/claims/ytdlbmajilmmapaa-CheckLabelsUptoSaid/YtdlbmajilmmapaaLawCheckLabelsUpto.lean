/- runnel/runnellaw19.CheckLabels, for arguments that hold together at most 1048576 values and letters: the call returns true; the arguments read as before. -/
import Derived.Test.YtdlbmajilmmapaaRows
import Derived.Test.YtdlbmajilmmapaaPureCheckLabels
import Derived.Test.YtdlbmajilmmapaaTCheckLabels
import Derived.WalkKit
import Derived.ProofKit
import Derived.OpenShut
import Derived.ShutString
import Derived.ChangeOld
import Derived.Below
import Derived.SizedLaws
import Derived.JoinedCond
namespace Go.Proofs.Ytdlbmajilmmapaa.checkLabelsUpto
open Go.ChangeShapes Go.WideShapes Go.ChangeAt Go.RowKit Go.Proofs.Ytdlbmajilmmapaa.F Go.Proofs.YtdlbmajilmmapaaW.PrintWords
open Go.ChangeMaps (open_string shut_string)
set_option linter.unusedVariables false
theorem own : ownKnob Try.prog.godebug = none := by kernel_rfl
theorem laidOut : laidOutB Try.prog = true := by kernel_rfl
theorem bulk_pos {H : Type} (d : DataW H) : 1 ≤ Rows.uptoBulk d := by
  cases d with
  | lit l => cases l <;> simp [Rows.uptoBulk]
  | nil => simp [Rows.uptoBulk]
  | ptr d => simp [Rows.uptoBulk]
  | slice a b => simp [Rows.uptoBulk]
  | agg a => simp [Rows.uptoBulk]
  | iface a b => simp [Rows.uptoBulk]
  | map a => simp [Rows.uptoBulk]
  | held a => simp [Rows.uptoBulk]
theorem bulk_len {H : Type} : ∀ ds : List (DataW H), ds.length ≤ Rows.uptoBulkAll ds
  | [] => Nat.zero_le _
  | d :: ds => by
    have h1 := bulk_pos d
    have h2 := bulk_len ds
    rw [Rows.uptoBulkAll, List.length_cons]
    omega
theorem slice_bulk {P : Program} {t e : TypeId} (ht : P.underlying t = some (.slice e)) {H : Type} {enc : TypeId × Value → H} {w : World} {base : Nat} {spare : Nat → Bool} {held : Bool} {A : Option Addr} {len cap : Nat} {d : DataW H} {ps : List MemPlace} (h : DataW.Trod enc P w base spare held t (.slice A len cap) d ps) : len ≤ Rows.uptoBulk d := by
  obtain ⟨fuel, h⟩ := h
  have hc : (Value.slice A len cap).cells.toList = [.slice A len cap] := by simp [Value.cells]
  rw [hc] at h
  rcases DataW.trod_slice ht h with ⟨hcs, _⟩ | ⟨a, len', cap', elems, rest, n, _, hcs, hx, _, _, _, hlen, _⟩
  · simp only [List.cons.injEq, Value.slice.injEq, and_true] at hcs
    omega
  · simp only [List.cons.injEq, Value.slice.injEq, and_true] at hcs
    obtain ⟨_, rfl, _⟩ := hcs
    have hd : d = .slice (elems.map (·.1)) (rest.map (·.1)) := congrArg Prod.fst hx
    rw [hd, Rows.uptoBulk]
    have := bulk_len (elems.map (·.1))
    rw [List.length_map, hlen] at this
    omega
theorem ints_wf {P : Program} {t e : TypeId} {k : IntKind} (ht : P.underlying t = some (.slice e)) (he : P.underlying e = some (.int k)) (h1 : P.cellsOf e = 1) {H : Type} {enc : TypeId × Value → H} {w : World} {base : Nat} {spare : Nat → Bool} {held : Bool} {A : Option Addr} {cap : Nat} {d : DataW H} {ps : List MemPlace} {l : List Int} (h : DataW.Trod enc P w base spare held t (.slice A l.length cap) d ps) (hC : Kd.C (Kd.int k) w A l.length l) : ∀ x ∈ l, (Lit.int k x).wf = true := by
  obtain ⟨fuel, h⟩ := h
  have hc : (Value.slice A l.length cap).cells.toList = [.slice A l.length cap] := by simp [Value.cells]
  rw [hc] at h
  intro x hx
  obtain ⟨i, hi⟩ := List.mem_iff_getElem?.1 hx
  have hil : i < l.length := (List.getElem?_eq_some_iff.1 hi).1
  rcases DataW.trod_slice ht h with ⟨hcs, _⟩ | ⟨a, len', cap', elems, rest, n, _, hcs, _, _, _, _, hlen, hel, _⟩
  · simp only [List.cons.injEq, Value.slice.injEq, and_true] at hcs
    omega
  · simp only [List.cons.injEq, Value.slice.injEq, and_true] at hcs
    obtain ⟨rfl, rfl, _⟩ := hcs
    have hk := hel i hil
    rw [List.getElem?_eq_getElem (by omega)] at hk
    obtain ⟨cs', h2, h3⟩ := Option.bind_eq_some_iff.1 hk
    obtain ⟨q, rfl, _, hw⟩ := DataW.trod_int he h3
    obtain ⟨_, _, hcell⟩ := World.cells?_some h2
    have hq := hcell 0 (by omega)
    obtain ⟨ad, ha, hcc⟩ := hC.2.2 (by omega)
    injection ha with ha
    subst ha
    obtain ⟨c, _, hK, hcv⟩ := hcc i x hi
    have hK' : c = [.int k x] := hK
    have hv := hcv 0 (.int k x) (by rw [hK']; rfl)
    have e1 : w.cell? ((a.add (i * P.cellsOf e)).add 0) = w.cell? (a.add (i * (Kd.int k).sz + 0)) := by rw [Addr_add_add, h1]; rfl
    rw [e1, hv] at hq
    have h9 : x = q := by simpa using hq
    rw [h9]
    exact hw
set_option maxRecDepth 100000 in
theorem contract (H : Type) (enc : TypeId × Value → H) (W : World) (base : Nat) (args : Array Value) (ds gs : List (DataW H)) (before : List MemPlace)
    (hval : ∀ (j : Nat) t v, Try.f5.params[j]? = some t → args[j]? = some v → Value.okWide Try.prog W .any base t v)
    (hW : DataW.Whole enc Try.prog Try.f5.params.toList Rows.checkLabelsSpec.vars false W args.toList ds gs before) (hk : Rows.uptoSmall H (ds ++ gs) = true) :
    Calls Try.prog 5 args W fun e W' => ∃ v, e = .returned v ∧ Rows.checkLabelsSpec.post enc Try.prog Try.f5 false true false false W args v W' := by
  have hW' := hW
  obtain ⟨p, q, hA0, hV, rfl, hfz, hnd⟩ := hW
  have hA : DataW.TrodAll enc Try.prog W 0 (fun _ => true) true Try.f5.params.toList args.toList ds p := hA0
  rw [Try.params5] at hA hval
  obtain ⟨v0, vs0, d0, ds0, p0, q0, hargs, rfl, rfl, h0, r0⟩ := trodAll_cons hA
  obtain ⟨v1, vs1, d1, ds1, p1, q1, rfl, rfl, rfl, h1, r1⟩ := trodAll_cons r0
  obtain ⟨rfl, rfl, rfl⟩ := trodAll_nil r1
  obtain rfl : args = #[v0, v1] := by cases args; simp_all
  obtain ⟨rfl, rfl⟩ := trodVars_none hV
  have hb : Rows.uptoBulkAll (_ ++ _) ≤ 1048576 := of_decide_eq_true hk
  simp only [List.append_nil, Rows.uptoBulkAll] at hb
  obtain ⟨a0, len0, cap0, rfl⟩ := okWide_slice Try.underlying38 (hval 0 38 v0 rfl rfl)
  have lt0 : ∀ x ∈ p0, x.block < W.heap.size := by obtain ⟨m, hm⟩ := h0; exact DataW.trod_lt m _ _ _ hm
  obtain ⟨l0, hl0, hc0, hC0, hz0⟩ := Told.arg told9 Try.underlying38 (by kernel_rfl) h0
  subst hl0
  have g0 : l0.length ≤ 1048576 := Nat.le_trans (slice_bulk Try.underlying38 h0) (by omega)
  obtain ⟨a1, len1, cap1, rfl⟩ := okWide_slice Try.underlying39 (hval 1 39 v1 rfl rfl)
  have lt1 : ∀ x ∈ p1, x.block < W.heap.size := by obtain ⟨m, hm⟩ := h1; exact DataW.trod_lt m _ _ _ hm
  obtain ⟨l1, hl1, hc1, hC1, hz1⟩ := Told.arg told5 Try.underlying39 (by kernel_rfl) h1
  subst hl1
  have g1 : l1.length ≤ 1048576 := Nat.le_trans (slice_bulk Try.underlying39 h1) (by omega)
  have x1 := ints_wf Try.underlying39 Try.underlying5 (by kernel_rfl) h1 hC1
  clear hA0 hk hb
  refine (Pure.CheckLabels a0 cap0 l0 a1 cap1 l1 W hC0 hc0 g0 hC1 hc1 g1 x1).mono fun e W' ⟨he, bel⟩ => ?_
  subst he
  exact ⟨_, rfl, _, _, _, [], _, [], hW', trodAll_mk1 (shut_bool Try.underlying4 _), (trodAll_cons_mk (Below.trod laidOut (by kernel_rfl) (of_decide_eq_true (by kernel_rfl)) h0 bel lt0) (trodAll_cons_mk (Below.trod laidOut (by kernel_rfl) (of_decide_eq_true (by kernel_rfl)) h1 bel lt1) trodAll_mk0)), rfl, bel.frame _, fun h => by cases h⟩
set_option maxRecDepth 100000 in
theorem lifted (os : Os) (started : os.Started) (H : Type) (enc : TypeId × Value → H) (F : Stop.Interp) :
    ReturnsInHanded {} Try.checked os 5 .any ((Rows.OpenSpec.upto Rows.checkLabelsSpec).pre6 enc Try.prog Try.f5 Rows.checkLabelsUptoRow.domain false) (((Rows.OpenSpec.upto Rows.checkLabelsSpec).at F).post enc Try.prog Try.f5 false true false false) := by
  refine returnsInHanded_of_cond (C := Try.checked) (s := Rows.OpenSpec.upto Rows.checkLabelsSpec) (k := Rows.uptoSmall) rfl own started (by kernel_rfl) Try.func5
    (OpenSpec.witness (enc := enc) (C := Try.checked) (s := Rows.OpenSpec.upto Rows.checkLabelsSpec) (k := Rows.uptoSmall) rfl false ⟨#[], #[.slice none 0 0, .slice none 0 0], []⟩ 8 (by kernel_rfl) (by kernel_rfl) (by kernel_rfl)
      (x := ([.nil, .nil], [], [])) (by kernel_rfl) rfl (by kernel_rfl)) ?_
  intro W base args ds gs before hval hW _ hk _
  exact contract H enc W base args ds gs before hval hW hk
theorem proved : Rows.CheckLabelsUptoSaid :=
  OpenClaim.holds_of_cond 5 Try.f5 rfl rfl rfl rfl rfl rfl rfl ⟨rfl, rfl, rfl, rfl, rfl⟩ rfl rfl rfl rfl rfl (by kernel_rfl) Try.func5 (by kernel_rfl)
    (of_decide_eq_true (by kernel_rfl)) (by unfold Func.isWrapper; first | (rw [if_pos (by decide +kernel)]; kernel_rfl) | (rw [if_neg (by decide +kernel)]; exact ⟨rfl, rfl⟩))
    (fun os started H enc _ F => lifted os started H enc F)
#print axioms proved
end Go.Proofs.Ytdlbmajilmmapaa.checkLabelsUpto
namespace Go.Proofs.Ytdlbmajilmmapaa
/-- The row, under a short name, for the claim. -/
theorem checkLabelsUpto_holds : Rows.CheckLabelsUptoSaid := checkLabelsUpto.proved
end Go.Proofs.Ytdlbmajilmmapaa
