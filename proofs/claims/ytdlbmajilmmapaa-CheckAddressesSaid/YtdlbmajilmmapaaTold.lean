/- From the row's own reader ('trod') to the printer's kinds: what a type's cells read as, as a Lean value of the kind, with the bounds of its numbers and texts. No program text. -/
import Derived.Test.YtdlbmajilmmapaaFx
import Derived.SizedLaws
import Derived.ChangeArms
namespace Go.Proofs.Ytdlbmajilmmapaa.F
open Go.RowKit Go.Proofs.YtdlbmajilmmapaaW.PrintWords

structure Told {α : Type} (κ : Kd α) (P : Program) (t : TypeId) (good : α → Prop) : Prop where
  cells : P.cellsOf t = κ.sz
  told : ∀ {H : Type} {enc : TypeId × Value → H} {w : World} {base : Nat} {spare : Nat → Bool} {held : Bool} {fuel : Nat} {cs : List Value} {x : DataW H × List MemPlace},
    DataW.trod enc P w base spare held fuel t cs = some x → ∃ a, κ.K w a cs ∧ ((∀ n ∈ x.1.weights P t, n ≤ reachBytes) → good a)

theorem Told.int {P : Program} {t : TypeId} {k : IntKind} (ht : P.underlying t = some (.int k)) (hc : P.cellsOf t = 1) : Told (Kd.int k) P t (fun n => (Lit.int k n).wf = true) :=
  ⟨hc, fun h => by
    obtain ⟨n, rfl, rfl, hw⟩ := DataW.trod_int ht h
    exact ⟨n, rfl, fun _ => hw⟩⟩
theorem Told.bool {P : Program} {t : TypeId} (ht : P.underlying t = some .bool) (hc : P.cellsOf t = 1) : Told Kd.bool P t (fun _ => True) :=
  ⟨hc, fun h => by
    obtain ⟨n, rfl, rfl⟩ := DataW.trod_bool ht h
    exact ⟨n, rfl, fun _ => trivial⟩⟩
theorem Told.string {P : Program} {t : TypeId} (ht : P.underlying t = some .string) (hc : P.cellsOf t = 1) : Told Kd.string P t (fun s => s.size ≤ reachBytes) :=
  ⟨hc, fun h => by
    obtain ⟨s, rfl, rfl, _⟩ := DataW.trod_string ht h
    refine ⟨s, rfl, fun hz => ?_⟩
    have := hz s.data.toList.length (by simp [DataW.weights])
    rwa [data_length] at this⟩

theorem Addr_add_add (a : Addr) (i j : Nat) : (a.add i).add j = a.add (i + j) := by
  unfold Addr.add
  by_cases hi : i = 0 <;> by_cases hj : j = 0 <;> simp [hi, hj, Nat.add_assoc]

theorem weightsAll_mem {H : Type} {P : Program} {e : TypeId} : ∀ {ds : List (DataW H)} {d : DataW H}, d ∈ ds → ∀ n ∈ d.weights P e, n ∈ DataW.weightsAll P e ds
  | d0 :: ds, d, hd, n, hn => by
    rw [DataW.weightsAll, List.mem_append]
    rcases List.mem_cons.1 hd with rfl | hd
    · exact .inl hn
    · exact .inr (weightsAll_mem hd n hn)
  | [], _, hd, _, _ => by cases hd

theorem Told.slice {α : Type} {κ : Kd α} {P : Program} {t e : TypeId} {good : α → Prop} (he : Told κ P e good) (ht : P.underlying t = some (.slice e)) (hc : P.cellsOf t = 1) :
    Told (Kd.slice e κ) P t (fun l => l.length * P.bytesOf e ≤ reachBytes ∧ ∀ a ∈ l, good a) :=
  ⟨hc, fun {H} {enc} {w} {base} {spare} {held} {fuel} {cs} {x} h => by
    rcases DataW.trod_slice ht h with ⟨rfl, rfl⟩ | ⟨a, len, cap, elems, rest, n, rfl, rfl, rfl, hb, hl, hm, hlen, hel, hsp, hns⟩
    · exact ⟨[], ⟨none, 0, rfl, Nat.le_refl _, rfl, Nat.zero_le _, fun h => absurd h (Nat.lt_irrefl 0)⟩, fun _ => ⟨by simp, by simp⟩⟩
    · have key : ∀ m, m ≤ len → ∃ l : List α, l.length = m ∧ ∀ j p, l[j]? = some p → (∃ c, c.length = κ.sz ∧ κ.K w p c ∧ ∀ i u, c[i]? = some u → w.cell? (a.add (j * κ.sz + i)) = some u) ∧
          ((∀ n ∈ DataW.weightsAll P e (elems.map (·.1)), n ≤ reachBytes) → good p) := by
        intro m
        induction m with
        | zero => exact fun _ => ⟨[], rfl, fun j p h => by simp at h⟩
        | succ m ih =>
          intro hm1
          obtain ⟨l, hll, hl2⟩ := ih (by omega)
          have hk := hel m (by omega)
          rw [List.getElem?_eq_getElem (by omega)] at hk
          obtain ⟨cs', h1, h2⟩ := Option.bind_eq_some_iff.1 hk
          obtain ⟨hb1, hl1, hcell⟩ := World.cells?_some h1
          obtain ⟨p, hp, hg⟩ := he.told h2
          refine ⟨l ++ [p], by simp [hll], fun j q hq => ?_⟩
          rcases Nat.lt_or_ge j l.length with hj | hj
          · rw [List.getElem?_append_left hj] at hq
            exact hl2 j q hq
          · have hj' : j = l.length := by
              have := (List.getElem?_eq_some_iff.1 hq).1
              rw [List.length_append, List.length_singleton] at this
              omega
            subst hj'
            have hq' : p = q := by simpa using hq
            subst hq'
            refine ⟨⟨cs', by rw [hl1, he.cells], hp, fun i u hu => ?_⟩, fun hz => hg fun n hn => hz n (weightsAll_mem (List.mem_map_of_mem (List.getElem_mem _)) n hn)⟩
            have hi : i < P.cellsOf e := by
              have := (List.getElem?_eq_some_iff.1 hu).1
              omega
            have := hcell i hi
            rw [hu, he.cells, Addr_add_add, hll] at *
            exact this
      obtain ⟨l, hll, hl2⟩ := key len (Nat.le_refl _)
      refine ⟨l, ⟨some a, cap, by rw [hll], by omega, rfl, by rw [hll]; exact Nat.le_trans hl (Nat.le_trans hm (by decide)), fun _ => ⟨a, rfl, fun j p hj => (hl2 j p hj).1⟩⟩, fun hz => ⟨?_, fun b hb2 => ?_⟩⟩
      · have := hz ((elems.map (·.1)).length * P.bytesOf e + (rest.map (·.1)).length * P.bytesOf e) (by simp [DataW.weights, ht, Nat.add_mul])
        rw [List.length_map, hlen, ← hll] at this
        omega
      · obtain ⟨j, hj⟩ := List.mem_iff_getElem?.1 hb2
        refine (hl2 j b hj).2 fun n hn => hz n ?_
        simp only [DataW.weights, ht]
        exact List.mem_cons_of_mem _ (List.mem_append_left _ hn)⟩

/-- The fields from one offset on. -/
structure ToldF {α : Type} (κ : Kd α) (P : Program) (fs : List Field) (off : Nat) (good : α → Prop) : Prop where
  told : ∀ {H : Type} {enc : TypeId × Value → H} {w : World} {base : Nat} {spare : Nat → Bool} {held : Bool} {fuel : Nat} {cs : List Value} {xs : List (DataW H × List MemPlace)},
    off + κ.sz ≤ cs.length → xs.length = fs.length → (∀ (i : Nat) (f : Field), fs[i]? = some f → DataW.trod enc P w base spare held fuel f.type ((cs.drop f.offset).take (P.cellsOf f.type)) = xs[i]?) →
    ∃ a, κ.K w a ((cs.drop off).take κ.sz) ∧ ((∀ n ∈ DataW.weightsEach P (fs.map (·.type)) (xs.map (·.1)), n ≤ reachBytes) → good a)

theorem ToldF.one {α : Type} {κ : Kd α} {P : Program} {f : Field} {good : α → Prop} (h : Told κ P f.type good) : ToldF κ P [f] f.offset good :=
  ⟨fun {H} {enc} {w} {base} {spare} {held} {fuel} {cs} {xs} hl hx ht => by
    have h0 := ht 0 f rfl
    match xs, hx with
    | [x], _ =>
      obtain ⟨a, ha, hg⟩ := h.told h0
      rw [h.cells] at ha
      refine ⟨a, ha, fun hz => hg fun n hn => hz n ?_⟩
      simp only [List.map_cons, List.map_nil, DataW.weightsEach]
      exact List.mem_append_left _ hn⟩
theorem ToldF.cons {α β : Type} {κ : Kd α} {κ' : Kd β} {P : Program} {f : Field} {fs : List Field} {good : α → Prop} {good' : β → Prop} (h : Told κ P f.type good) (hs : ToldF κ' P fs (f.offset + κ.sz) good') :
    ToldF (Kd.pair κ κ') P (f :: fs) f.offset (fun x => good x.1 ∧ good' x.2) :=
  ⟨fun {H} {enc} {w} {base} {spare} {held} {fuel} {cs} {xs} hl hx ht => by
    have h0 := ht 0 f rfl
    match xs, hx with
    | x :: xs, hx =>
      obtain ⟨a, ha, hg⟩ := h.told h0
      rw [h.cells] at ha
      have hsz : (Kd.pair κ κ').sz = κ.sz + κ'.sz := rfl
      rw [hsz] at hl
      obtain ⟨b, hb, hg'⟩ := hs.told (w := w) (base := base) (enc := enc) (spare := spare) (held := held) (fuel := fuel) (cs := cs) (xs := xs) (by omega) (by simpa using hx) (fun i f' hf => ht (i + 1) f' hf)
      refine ⟨(a, b), ⟨_, _, ?_, ha, hb⟩, fun hz => ⟨hg fun n hn => hz n ?_, hg' fun n hn => hz n ?_⟩⟩
      · rw [hsz, List.take_add, List.drop_drop]
      · simp only [List.map_cons, DataW.weightsEach]
        exact List.mem_append_left _ hn
      · simp only [List.map_cons, DataW.weightsEach]
        exact List.mem_append_right _ hn⟩
theorem Told.struct {α β : Type} {κ : Kd α} {P : Program} {t : TypeId} {fs : Array Field} {good : α → Prop} (f : β → α) (g : α → β) (hfg : ∀ a, f (g a) = a) (ht : P.underlying t = some (.struct fs)) (hc : P.cellsOf t = κ.sz) (h : ToldF κ P fs.toList 0 good) :
    Told (Kd.iso κ f) P t (fun x => good (f x)) :=
  ⟨hc, fun {H} {enc} {w} {base} {spare} {held} {fuel} {cs} {x} hx => by
    obtain ⟨xs, n, rfl, rfl, hl, hxs, hfs⟩ := DataW.trod_struct ht hx
    obtain ⟨a, ha, hg⟩ := h.told (w := w) (cs := cs) (xs := xs) (by rw [hl, hc]; omega) (by simpa using hxs) (fun i f' hf => hfs i f' (by simpa using hf))
    rw [List.drop_zero, List.take_of_length_le (by rw [hl, hc]; exact Nat.le_refl _)] at ha
    refine ⟨g a, by show κ.K w (f (g a)) cs; rw [hfg]; exact ha, fun hz => ?_⟩
    show good (f (g a))
    rw [hfg]
    refine hg fun n hn => hz n ?_
    simp only [DataW.weights, ht]
    exact hn⟩

/-- An argument that is a slice: its value, its list, and the bounds. -/
theorem Told.arg {α : Type} {κ : Kd α} {P : Program} {t e : TypeId} {good : α → Prop} (he : Told κ P e good) (ht : P.underlying t = some (.slice e)) (h1 : P.cellsOf t = 1) {H : Type} {enc : TypeId × Value → H} {w : World} {base : Nat} {spare : Nat → Bool} {held : Bool} {A : Option Addr} {len cap : Nat} {d : DataW H} {ps : List MemPlace}
    (h : DataW.Trod enc P w base spare held t (.slice A len cap) d ps) : ∃ l : List α, l.length = len ∧ len ≤ cap ∧ κ.C w A len l ∧ ((∀ n ∈ d.weights P t, n ≤ reachBytes) → l.length * P.bytesOf e ≤ reachBytes ∧ ∀ a ∈ l, good a) := by
  obtain ⟨fuel, h⟩ := h
  have hc : (Value.slice A len cap).cells.toList = [.slice A len cap] := by simp [Value.cells]
  rw [hc] at h
  obtain ⟨l, ⟨A', c', hv, hlc, hC⟩, hz⟩ := (he.slice ht h1).told h
  simp only [List.cons.injEq, Value.slice.injEq, and_true] at hv
  obtain ⟨rfl, rfl, rfl⟩ := hv
  exact ⟨l, rfl, hlc, hC, hz⟩
end Go.Proofs.Ytdlbmajilmmapaa.F
