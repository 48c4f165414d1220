/- (*check.book).meet, at every command and every book: what it answers, and the book behind it, as meetF tells. -/
import Derived.Test.YtdlbmajilmmapaaBytes
import Derived.Test.YtdlbmajilmmapaaF77
import Derived.Maps.Own
import Derived.Maps.OwnOps
import Derived.Maps.OwnSet
import Derived.Maps.Views
import Derived.StringKeys
import Derived.WalkMore
import Derived.RegionTactic
import Derived.BigRegion
import Derived.Deep.RegionLaw
import Derived.Deep.QuietTactic
import Derived.BigQuiet
namespace Go.Proofs.Ytdlbmajilmmapaa.F
open Go.RowKit Go.Maps Go.Proofs.YtdlbmajilmmapaaW.PrintWords Go.Proofs.YtdlbmajilmmapaaW.PrintLast Go.Proofs.YtdlbmajilmmapaaW.PrintMore
set_option linter.unusedVariables false
set_option linter.unusedSimpArgs false

/-- what addresses answers -/
def adF (c : S27) : Option Int := check_addresses.f 9 c.f0 c.f1.f0 c.f1.f1 c.f1.f2 c.f2.f0 c.f2.f1 c.f2.f2 c.f3 c.f4 c.f5 c.f6 c.f7 c.f8 c.f9 c.f10 c.f11 c.f12 c.f13 c.f14
/-- what meet answers, and the labels and the places of the blocks behind it -/
def meetE (e x0 x8 : Int) (x9 : ByteArray) (ls : List (List UInt8)) (op : List Int) : Int × List (List UInt8) × List Int :=
    if e = 0 then
      if x8 = 123 then (if op.length = 16 then (13, ls, op) else (0, ls, op ++ [x0]))
      else if x8 = 125 then (if op.length = 0 then (23, ls, op) else (0, ls, op.take (op.length - 1)))
      else if x8 = 58 then (if x9.size = 0 ∨ 32 < x9.size ∨ x9.data.toList ∈ ls then (22, ls, op) else (0, ls ++ [x9.data.toList], op))
      else (0, ls, op)
    else (e, ls, op)
def meetF (c : S27) (ls : List (List UInt8)) (op : List Int) : Option (Int × List (List UInt8) × List Int) := (adF c).map fun e => meetE e c.f0 c.f4 c.f5 ls op

def HasL (D : DataW Unit) (ls : List (List UInt8)) : Prop := IsMap D ∧ ∀ s : List UInt8, D.atKey (.string s) (.lit (.int .i64 0)) = .lit (.int .i64 (if s ∈ ls then 1 else 0))
theorem hasL_nil : HasL (.map []) [] := ⟨⟨[], rfl⟩, fun s => by simp [DataW.atKey]⟩
theorem hasL_put {D : DataW Unit} {ls : List (List UInt8)} (h : HasL D ls) (s : List UInt8) : HasL (D.put (.string s) (.lit (.int .i64 1))) (ls ++ [s]) := by
  refine ⟨?_, fun x => ?_⟩
  · obtain ⟨es, rfl⟩ := h.1
    exact ⟨_, rfl⟩
  · by_cases hx : x = s
    · subst hx
      rw [atKey_put_same (k := .string x) h.1 (by trivial), if_pos (by simp)]
    · have hne : (Lit.string x) ≠ .string s := by
        intro e
        injection e with e
        exact hx e
      rw [atKey_put_other hne, h.2 x]
      simp [hx]

/-- What is known of a book: its block, its map's, the labels, the blocks that are open, and what lay before. -/
def IsBook (w0 w : World) (g bm n : Nat) (ls : List (List UInt8)) (op : List Int) : Prop :=
  ∃ (v : Value) (D : DataW Unit), w.heap[g]? = some (.cells #[.map (some bm), v] 104 (0, 0)) ∧ Kd.R (Kd.int .i64) 3 w w0.heap.size (fun _ => True) v op ∧ w.ownsMap Try.prog 9 (plainElem Try.prog 3) bm n D ∧ HasL D ls ∧ w0.heap.size ≤ g ∧ w0.heap.size ≤ bm ∧ Below w0.heap.size w0 w

theorem map_ne_row {w : World} {P : Program} {k : TypeId} {R : Value → Option (DataW Unit × List MemPlace)} {bm n : Nat} {D : DataW Unit} (hown : w.ownsMap P k R bm n D) {α : Type} {d : Kd α} {e base : Nat} {ok : Nat → Prop} {v : Value} {xs : List α} (h : d.R e w base ok v xs) : some bm ≠ v.ownBlock := by
  intro he
  obtain ⟨inner, ho⟩ := Kd.R_own h
  obtain ⟨cells, hc⟩ := own_typed ho bm he.symm
  obtain ⟨es, clock, hb, _⟩ := hown
  rw [hb] at hc
  cases hc
theorem map_ne_cells {w : World} {P : Program} {k : TypeId} {R : Value → Option (DataW Unit × List MemPlace)} {bm n : Nat} {D : DataW Unit} (hown : w.ownsMap P k R bm n D) {g t : Nat} {cs : Array Value} (hb : w.heap[g]? = some (.cells cs t (0, 0))) : bm ≠ g := by
  rintro rfl
  obtain ⟨es, clock, hb', _⟩ := hown
  rw [hb] at hb'
  cases hb'
theorem map_below {w w1 : World} {P : Program} {k : TypeId} {R : Value → Option (DataW Unit × List MemPlace)} {bm n : Nat} {D : DataW Unit} (hown : w.ownsMap P k R bm n D) (hb : Below w.heap.size w w1) : w1.ownsMap P k R bm n D := hown.kept (grown_of_below hb none) (by simp)
theorem IsBook.below {w0 w w1 : World} {g bm n : Nat} {ls : List (List UInt8)} {op : List Int} (h : IsBook w0 w g bm n ls op) (hb : Below w.heap.size w w1) : IsBook w0 w1 g bm n ls op := by
  obtain ⟨v, D, hblk, hR, hown, hL, hg, hbm, hB⟩ := h
  exact ⟨v, D, blk_below hblk hb, Kd.R_below hR hb, map_below hown hb, hL, hg, hbm, below_step hB hb⟩
theorem IsBook.mono {w0 w : World} {g bm n : Nat} {ls : List (List UInt8)} {op : List Int} (h : IsBook w0 w g bm n ls op) : IsBook w0 w g bm (n + 1) ls op := by
  obtain ⟨v, D, hblk, hR, hown, r⟩ := h
  exact ⟨v, D, hblk, hR, hown.mono (Nat.le_succ n), r⟩
/-- The book's slice is another one. -/
theorem IsBook.put {w0 w1 : World} {g bm n : Nat} {ls : List (List UInt8)} {op : List Int} {v0 v1 : Value} {D : DataW Unit} (hb : w1.heap[g]? = some (.cells #[.map (some bm), v0] 104 (0, 0))) (hR : Kd.R (Kd.int .i64) 3 w1 w0.heap.size (fun _ => True) v1 op) (hown : w1.ownsMap Try.prog 9 (plainElem Try.prog 3) bm n D) (hL : HasL D ls)
    (hg : w0.heap.size ≤ g) (hbm : w0.heap.size ≤ bm) (hB : Below w0.heap.size w0 w1) : IsBook w0 (w1.setCell ⟨g, 1, none⟩ v1) g bm (n + 1) ls op := by
  refine ⟨v1, D, ?_, Kd.R_set hR hb (by decide) 1 v1, (hown.setCell (map_ne_cells hown hb) v1).mono (Nat.le_succ n), hL, hg, hbm, below_set hB hg⟩
  have := blk_set hb 1 v1
  simpa using this

theorem IsBook.isBelow {w0 w : World} {g bm n : Nat} {ls : List (List UInt8)} {op : List Int} (h : IsBook w0 w g bm n ls op) : Below w0.heap.size w0 w := by
  obtain ⟨_, _, _, _, _, _, _, _, hB⟩ := h
  exact hB
theorem map_drewN {w : World} {P : Program} {k : TypeId} {R : Value → Option (DataW Unit × List MemPlace)} {bm n : Nat} {D : DataW Unit} (hown : w.ownsMap P k R bm n D) (q : Nat) : (w.drewN q).ownsMap P k R bm n D := hown
/-- The book has a label more. -/
theorem IsBook.label {w0 W w4 : World} {g bm n : Nat} {ls : List (List UInt8)} {op : List Int} {v : Value} {D : DataW Unit} {s : List UInt8} (hb : W.heap[g]? = some (.cells #[.map (some bm), v] 104 (0, 0))) (hR : Kd.R (Kd.int .i64) 3 W w0.heap.size (fun _ => True) v op) (hown : W.ownsMap Try.prog 9 (plainElem Try.prog 3) bm n D) (hL : HasL D ls)
    (hg : w0.heap.size ≤ g) (hbm : w0.heap.size ≤ bm) (hB : Below w0.heap.size w0 W) (ho : w4.ownsMap Try.prog 9 (plainElem Try.prog 3) bm (n + 1) (D.put (.string s) (.lit (.int .i64 1)))) (hg4 : W.grownBy w4 (some bm)) : IsBook w0 w4 g bm (n + 1) (ls ++ [s]) op := by
  refine ⟨v, _, blk_grown hb hg4 ?_, ?_, ho, hasL_put hL s, hg, hbm, pw_below_grown hB _ hB.size hg4 (fun k hk => by injection hk with hk; omega)⟩
  · intro e
    injection e with e
    exact map_ne_cells hown hb e.symm
  · refine Kd.R_mono (Kd.R_grown (Kd.R_bound hR) hg4 ?_) (fun _ _ => trivial)
    rintro k ⟨_, _, _, q, _, cells, hc⟩ e
    injection e with e
    exact map_ne_cells hown hc e.symm

/-- Blocks of other types than a book's and its row's stay. -/
def Keeps (w w' : World) : Prop := ∀ (k t : Nat) (cs : Array Value), t ≠ 104 → t ≠ 3 → w.heap[k]? = some (.cells cs t (0, 0)) → w'.heap[k]? = some (.cells cs t (0, 0))
theorem keeps_below {w w' : World} (h : Below w.heap.size w w') : Keeps w w' := fun k t cs _ _ hk => blk_below hk h
theorem keeps_drewN {w w' : World} (h : Keeps w w') (n : Nat) : Keeps w (w'.drewN n) := h
theorem keeps_drew {w w' : World} (h : Keeps w w') : Keeps w w'.drew := h
theorem keeps_row {w w1 w' : World} (h : Keeps w w1) {α : Type} {d : Kd α} {base : Nat} {ok : Nat → Prop} {v : Value} {xs : List α} (hR : d.R 3 w1 base ok v xs) (hg : w1.grownBy w' v.ownBlock) : Keeps w w' := by
  intro k t cs h1 h2 hk
  have hk1 := h k t cs h1 h2 hk
  exact blk_grown hk1 hg (Kd.R_ne hR hk1 (fun e => h2 e.symm))
theorem keeps_map {w w1 w' : World} (h : Keeps w w1) {P : Program} {q : TypeId} {R : Value → Option (DataW Unit × List MemPlace)} {bm n : Nat} {D : DataW Unit} (hown : w1.ownsMap P q R bm n D) (hg : w1.grownBy w' (some bm)) : Keeps w w' := by
  intro k t cs h1 h2 hk
  have hk1 := h k t cs h1 h2 hk
  exact blk_grown hk1 hg (fun e => by injection e with e; exact map_ne_cells hown hk1 e.symm)
theorem keeps_set {w w1 : World} (h : Keeps w w1) {g : Nat} {cs0 : Array Value} (hb : w1.heap[g]? = some (.cells cs0 104 (0, 0))) (v : Value) : Keeps w (w1.setCell ⟨g, 1, none⟩ v) := by
  intro k t cs h1 h2 hk
  have hk1 := h k t cs h1 h2 hk
  exact blk_far hk1 (p := ⟨g, 1, none⟩) (blk_ne hk1 hb h1) v

set_option maxHeartbeats 4000000 in
set_option maxRecDepth 100000 in
theorem book_meet_ (x0 : Int) (x1 : Int) (x2 : Int) (x3 : ByteArray) (x4 : Int) (x5 : Int) (x6 : ByteArray) (x7 : Bool) (x8 : Int) (x9 : ByteArray) (x10 : ByteArray) (x11 : ByteArray) (x12 : ByteArray) (x13 : List S117) (x14 : Int) (x15 : Bool) (x16 : Bool) (x17 : ByteArray) (x18 : ByteArray) (e : Int) (A : Option Addr) (cn g bm n : Nat) (ls : List (List UInt8)) (op : List Int) (w0 w : World) (h : IsBook w0 w g bm n ls op) (hn : n < maxLen) (hop : op.length ≤ 16) (hps : Kd.C k117 w A x13.length x13) (hcn : x13.length ≤ cn)
    (r : Int) (ls' : List (List UInt8)) (op' : List Int) (he : check_addresses.f 9 x0 x1 x2 x3 x4 x5 x6 x7 x8 x9 x10 x11 x12 x13 x14 x15 x16 x17 x18 = some e) (hm : meetE e x0 x8 x9 ls op = (r, ls', op')) :
    Calls Try.prog 52 #[.pointer (some ⟨g, 0, none⟩), .agg #[.int .i64 x0, .int .i64 x1, .int .i64 x2, .string x3, .int .i64 x4, .int .i64 x5, .string x6, .bool x7, .int .u8 x8, .string x9, .string x10, .string x11, .string x12, .slice A x13.length cn, .int .i64 x14, .bool x15, .bool x16, .string x17, .string x18]] w
      fun e w' => e = .returned (.int .i64 r) ∧ Below w0.heap.size w0 w' ∧ Keeps w w' ∧ (r = 0 → IsBook w0 w' g bm (n + 1) ls' op') := by
  unfold meetE at hm
  have HE := Aside0.mk he
  have HM := Aside0.mk hm
  have HP := Aside0.mk hps
  have HCN := Aside0.mk hcn
  have HK := Aside0.mk h
  have HN := Aside0.mk (And.intro hn hop)
  clear he hm hps hcn h hn hop
  have hu27 := Try.underlying27
  go_enter Try.func52, Try.ntmps52
  go_upto_if 9 with (first | ((with_reducible refine gate_dst (N := 3) rfl ?_); refine box_event ?hg (N := 3) ?hd (cs := #[.int .i64 x0, .int .i64 x1, .int .i64 x2, .string x3, .int .i64 x4, .int .i64 x5, .string x6, .bool x7, .int .u8 x8, .string x9, .string x10, .string x11, .string x12, .slice A x13.length cn, .int .i64 x14, .bool x15, .bool x16, .string x17, .string x18]) (t := 27) ?hr ?_; (case hd => rfl); (case hg => rfl); (case hr => first | (go_simp; done) | (go_simp; rfl)); intro gb hgb w1 hbox hb1; have HBX := Aside0.mk hbox; have HB1 := Aside0.mk hb1; have HGB := Aside0.mk hgb; clear hbox hb1 hgb) | ((with_reducible refine gate_dst (N := 6) rfl ?_); refine wpList_load_row rfl 27 (.tmp 3) rfl gb rfl 27 #[.int .i64 x0, .int .i64 x1, .int .i64 x2, .string x3, .int .i64 x4, .int .i64 x5, .string x6, .bool x7, .int .u8 x8, .string x9, .string x10, .string x11, .string x12, .slice A x13.length cn, .int .i64 x14, .bool x15, .bool x16, .string x17, .string x18] (0, 0) _ HBX.out Try.underlying27 rfl (by kernel_rfl) ?_) | (go_at_call 77; refine (check_addresses.calls 9 x0 x1 x2 x3 x4 x5 x6 x7 x8 x9 x10 x11 x12 A cn x13 x14 x15 x16 x17 x18 e _ (Kd.C_below HP.out HB1.out) HCN.out HE.out).mono ?_; rintro e' w2 ⟨rfl, hb2⟩; have HB2 := Aside0.mk hb2; clear hb2))
  have HBY := Aside0.mk (blk_below HBX.out HB2.out)
  have HK2 := Aside0.mk (IsBook.below HK.out (below_step HB1.out HB2.out))
  obtain ⟨v, D, hblk, hR, hown, hL, hg, hbm, hB⟩ := HK2.out
  obtain ⟨Av, cv, rfl⟩ := Kd.R_slice hR
  have HG := Aside0.mk hblk
  have HR := Aside0.mk hR
  have HO := Aside0.mk hown
  have HL := Aside0.mk hL
  have HI := Aside0.mk (And.intro hg (And.intro hbm hB))
  have hk0 : w2.cell? ⟨gb, 0, none⟩ = some (.int .i64 x0) := (blk_cell HBY.out 0).trans rfl
  have hk8 : w2.cell? ⟨gb, 8, none⟩ = some (.int .u8 x8) := (blk_cell HBY.out 8).trans rfl
  have hk9 : w2.cell? ⟨gb, 9, none⟩ = some (.string x9) := (blk_cell HBY.out 9).trans rfl
  have hg0 : w2.cell? ⟨g, 0, none⟩ = some (.map (some bm)) := (blk_cell hblk 0).trans rfl
  have hg1 : w2.cell? ⟨g, 1, none⟩ = some (.slice Av op.length cv) := (blk_cell hblk 1).trans rfl
  have hf1 : w2.frozen? ⟨g, 1, none⟩ = false := blk_frozen hblk 1
  have HKP := Aside0.mk (keeps_below (below_step HB1.out HB2.out))
  clear hblk hR hown hL hg hbm hB HK HP HCN HE
  have hM := HM.out
  by_cases c1 : e = 0
  rotate_left
  · rw [if_neg c1] at hM
    simp only [Prod.mk.injEq] at hM
    obtain ⟨rfl, rfl, rfl⟩ := hM
    have c1b : (e != 0) = true := bne_iff_ne.mpr c1
    go_wp2
    go_ret
    exact ⟨rfl, HI.out.2.2, HKP.out, fun h => absurd h c1⟩
  rw [if_pos c1] at hM
  have c1b : (e != 0) = false := bne_eq_false_iff_eq.mpr c1
  clear c1 HM
  by_cases c2 : x8 = 123
  · rw [if_pos c2] at hM
    have c2b : (x8 == 123) = true := beq_iff_eq.mpr c2
    clear c2
    by_cases c3 : op.length = 16
    · rw [if_pos c3] at hM
      simp only [Prod.mk.injEq] at hM
      obtain ⟨rfl, rfl, rfl⟩ := hM
      have c3b : ((op.length : Int) == 16) = true := beq_iff_eq.mpr (by omega)
      go_wp2
      go_ret
      exact ⟨rfl, HI.out.2.2, HKP.out, fun h => by cases h⟩
    · rw [if_neg c3] at hM
      simp only [Prod.mk.injEq] at hM
      obtain ⟨rfl, rfl, rfl⟩ := hM
      have c3b : ((op.length : Int) == 16) = false := beq_eq_false_iff_ne.mpr (by omega)
      have hlen : (op.length + 1) * 8 ≤ 140737488355328 := by have := HN.out.2; omega
      have hg1a : ∀ o : Obj, (w2.alloc o).cell? ⟨g, 1, none⟩ = some (.slice Av op.length cv) := fun o => (blk_cell (blk_alloc HG.out o) 1).trans rfl
      clear c3
      go_wp2
      go_region_law (refine Kd.R_append_step (Kd.int .i64) (w0 := w0) (W := w2.drew) w0.heap.size (by simp [Region.wanted]) (.tmp 25) (.tmp 28) 102 3 (.int .i64 0) 8 rfl Try.underlying102 info3 rfl (by decide) (by omega) (.slice Av op.length cv) op x0 [.int .i64 x0] (fun _ => True) (fun _ => False) (by simp [Act.eval, Act.put]) (by simp [Act.eval, Act.put]) rfl (fun _ hk => hk.elim) (fun _ _ => trivial) (Kd.R_drew HR.out) (below_drew HI.out.2.2) HI.out.2.2.size hlen ?_; intro v1 w3 hR1 hB1 hg1 hat; have hb1 := blk_grown (blk_drew HG.out) hg1 (Kd.R_ne HR.out HG.out (by decide)); have ho1 := HO.out.drew.kept hg1 (map_ne_row HO.out HR.out); have HR1 := Aside0.mk hR1; have HB1 := Aside0.mk hB1; have HG1 := Aside0.mk hb1; have HO1 := Aside0.mk ho1; have HQ1 := Aside0.mk (keeps_row (keeps_drew HKP.out) (Kd.R_drew HR.out) hg1); have hc1 := blk_cell hb1 1; have hf1 := blk_frozen hb1 1; obtain ⟨A1, c1, rfl⟩ := Kd.R_slice hR1; clear hR1 hB1 hg1 hat hb1 ho1)
      all_goals
        go_wp2
        go_ret
        have hb9 := IsBook.put HG1.out (v1 := .slice A1 (op.length + 1) c1) (op := op ++ [x0]) (by have h := HR1.out; rw [List.length_append] at h; exact h) HO1.out HL.out HI.out.1 HI.out.2.1 HB1.out
        first | exact ⟨rfl, below_set HB1.out HI.out.1, keeps_set HQ1.out HG1.out _, fun _ => hb9⟩ | exact ⟨rfl, below_set HB1.out HI.out.1, keeps_set HQ1.out HG1.out _, hb9⟩
  rw [if_neg c2] at hM
  have c2b : (x8 == 123) = false := beq_eq_false_iff_ne.mpr c2
  clear c2
  by_cases c4 : x8 = 125
  · rw [if_pos c4] at hM
    have c4b : (x8 == 125) = true := beq_iff_eq.mpr c4
    clear c4
    by_cases c5 : op.length = 0
    · rw [if_pos c5] at hM
      simp only [Prod.mk.injEq] at hM
      obtain ⟨rfl, rfl, rfl⟩ := hM
      have c5b : ((op.length : Int) == 0) = true := beq_iff_eq.mpr (by omega)
      go_wp2
      go_ret
      exact ⟨rfl, HI.out.2.2, HKP.out, fun h => by cases h⟩
    · rw [if_neg c5] at hM
      simp only [Prod.mk.injEq] at hM
      obtain ⟨rfl, rfl, rfl⟩ := hM
      have c5b : ((op.length : Int) == 0) = false := beq_eq_false_iff_ne.mpr (by omega)
      obtain ⟨m, hm⟩ : ∃ m : Int, (op.length : Int) - 1 = m := ⟨_, rfl⟩
      have hop := HN.out.2
      have hmw : IntKind.i64.wrap ((op.length : Int) - 1) = m := by rw [i64_w, wrap_id (by omega) (by omega)]; exact hm
      obtain ⟨i3, hi3, hz0, hz1, hz2⟩ := info_parts info3
      obtain ⟨A', c', he', hlc, _⟩ := Kd.R_reads HR.out
      injection he' with e1 e2 e3
      subst e3
      have hcut := (print_take_of (P := Try.prog) (Value.int .i64) 0 102 3 .i64 Try.underlying102 hi3 hz1 Av cv op m (by omega) (by omega) hlc).1 w2
      have hmt : m.toNat = op.length - 1 := by omega
      rw [hmt] at hcut
      have HRT := Aside0.mk (Kd.R_take HR.out (show op.length - 1 ≤ op.length by omega))
      have hlt : (op.take (op.length - 1)).length = op.length - 1 := by rw [List.length_take]; omega
      have hm0 : (0 ≤ m) = True := eq_true (by omega)
      have hm1 : (m ≤ (cv : Int)) = True := eq_true (by omega)
      clear c5 hm e1 e2 hlc hi3 hz0 hz1 hz2 hop hcut
      go_wp2
      go_region
      all_goals
        go_wp2
        go_ret
        have hb9 := IsBook.put (blk_drew HG.out) (v1 := .slice Av (op.length - 1) cv) (op := op.take (op.length - 1)) (Kd.R_drew HRT.out) HO.out.drew HL.out HI.out.1 HI.out.2.1 (below_drew HI.out.2.2)
        first | exact ⟨rfl, below_set (below_drew HI.out.2.2) HI.out.1, keeps_set (keeps_drew HKP.out) (blk_drew HG.out) _, fun _ => hb9⟩ | exact ⟨rfl, below_set (below_drew HI.out.2.2) HI.out.1, keeps_set (keeps_drew HKP.out) (blk_drew HG.out) _, hb9⟩
  rw [if_neg c4] at hM
  have c4b : (x8 == 125) = false := beq_eq_false_iff_ne.mpr c4
  clear c4
  by_cases c6 : x8 = 58
  rotate_left
  · rw [if_neg c6] at hM
    simp only [Prod.mk.injEq] at hM
    obtain ⟨rfl, rfl, rfl⟩ := hM
    have c6b : (x8 == 58) = false := beq_eq_false_iff_ne.mpr c6
    clear c6
    go_wp2
    go_ret
    have hb9 : IsBook w0 w2 g bm (n + 1) ls op := IsBook.mono ⟨_, _, HG.out, HR.out, HO.out, HL.out, HI.out⟩
    first | exact ⟨rfl, HI.out.2.2, HKP.out, fun _ => hb9⟩ | exact ⟨rfl, HI.out.2.2, HKP.out, hb9⟩
  rw [if_pos c6] at hM
  have c6b : (x8 == 58) = true := beq_iff_eq.mpr c6
  clear c6
  have htl : x9.toList = x9.data.toList := Lib.toList_data x9
  have hse : x9.size = x9.data.toList.length := size_list x9
  by_cases c7 : x9.size = 0
  · rw [if_pos (Or.inl c7)] at hM
    simp only [Prod.mk.injEq] at hM
    obtain ⟨rfl, rfl, rfl⟩ := hM
    have c7b : (x9.toList == ([] : List UInt8)) = true := by rw [htl, List.length_eq_zero_iff.1 (show x9.data.toList.length = 0 by rw [← hse]; exact c7)]; rfl
    clear htl hse c7
    go_wp2
    go_quiet (fail)
    go_wp2
    go_ret
    first | exact ⟨rfl, pw_below_drewN HI.out.2.2 _, keeps_drewN HKP.out _, fun h => by cases h⟩ | exact ⟨rfl, pw_below_drewN HI.out.2.2 _, keeps_drewN HKP.out _⟩
  have c7b : (x9.toList == ([] : List UInt8)) = false := by
    rw [htl]
    refine beq_eq_false_iff_ne.2 fun e => c7 ?_
    rw [hse, e]
    rfl
  by_cases c8 : 32 < x9.size
  · rw [if_pos (Or.inr (Or.inl c8))] at hM
    simp only [Prod.mk.injEq] at hM
    obtain ⟨rfl, rfl, rfl⟩ := hM
    have c8b : decide ((32 : Int) < (x9.size : Int)) = true := decide_eq_true (by omega)
    clear htl hse c7 c8
    go_wp2
    go_quiet (fail)
    go_wp2
    go_ret
    first | exact ⟨rfl, pw_below_drewN HI.out.2.2 _, keeps_drewN HKP.out _, fun h => by cases h⟩ | exact ⟨rfl, pw_below_drewN HI.out.2.2 _, keeps_drewN HKP.out _⟩
  have c8b : decide ((32 : Int) < (x9.size : Int)) = false := decide_eq_false (by omega)
  have hkey : keyOf Try.prog 9 (.string x9) = some (.string x9.data.toList) := WideMaps.keyOf_string_mk Try.underlying9 (by unfold maxLen; omega)
  have hlook : ∀ q, (Instr.lookup 101 (.map (some bm)) (.string x9) false).run Try.prog (w2.drewN q) = .ok (.int .i64 (if x9.data.toList ∈ ls then 1 else 0)) (w2.drewN q) := by
    intro q
    obtain ⟨c, hrun, hat, _⟩ := (map_drewN HO.out q).lookup_int (string_keyed Try.underlying9) Try.underlying101 Try.underlying3 (by kernel_rfl) hkey
    rw [HL.out.2] at hat
    injection hat with hat
    injection hat with _ hat
    rw [hrun, hat]
  by_cases c9 : x9.data.toList ∈ ls
  · rw [if_pos (Or.inr (Or.inr c9))] at hM
    simp only [Prod.mk.injEq] at hM
    obtain ⟨rfl, rfl, rfl⟩ := hM
    simp only [if_pos c9] at hlook
    clear htl hse c7 c8 c9 hkey
    go_wp2
    go_quiet (fail)
    go_wp2
    go_ret
    first | exact ⟨rfl, pw_below_drewN HI.out.2.2 _, keeps_drewN HKP.out _, fun h => by cases h⟩ | exact ⟨rfl, pw_below_drewN HI.out.2.2 _, keeps_drewN HKP.out _⟩
  · rw [if_neg (fun h => h.elim c7 (fun h => h.elim c8 c9))] at hM
    simp only [Prod.mk.injEq] at hM
    obtain ⟨rfl, rfl, rfl⟩ := hM
    simp only [if_neg c9] at hlook
    have HKEY := Aside0.mk hkey
    clear htl hse c7 c8 c9 hkey
    go_wp2
    go_quiet (fail)
    have hb3 : (w2.drewN (nq + 1)).heap[g]? = some (.cells #[.map (some bm), .slice Av op.length cv] 104 (0, 0)) := HG.out
    have hR3 : Kd.R (Kd.int .i64) 3 (w2.drewN (nq + 1)) w0.heap.size (fun _ => True) (.slice Av op.length cv) op := Kd.R_drewN HR.out _
    have ho3 := map_drewN HO.out (nq + 1)
    have hB3 : Below w0.heap.size w0 (w2.drewN (nq + 1)) := pw_below_drewN HI.out.2.2 _
    obtain ⟨w4, hu4, ho4, hg4⟩ := ho3.update (string_keyed Try.underlying9) Try.underlying101 HN.out.1 HKEY.out (plainElem_int Try.underlying3 (a := 1) (by decide))
    have hu5 : (Instr.mapUpdate 101 (.map (some bm)) (.string x9) (.int .i64 (IntKind.i64.wrap 1))).run Try.prog (w2.drewN (nq + 1)) = .ok () w4 := hu4
    have HBK := Aside0.mk (IsBook.label hb3 hR3 ho3 HL.out HI.out.1 HI.out.2.1 hB3 ho4 hg4)
    have HQ4 := Aside0.mk (keeps_map (keeps_drewN HKP.out (nq + 1)) ho3 hg4)
    clear hb3 hR3 ho3 hB3 ho4 hg4
    go_wp2
    go_region
    all_goals
      go_wp2
      go_ret
      first | exact ⟨rfl, HBK.out.isBelow, HQ4.out, fun _ => HBK.out⟩ | exact ⟨rfl, HBK.out.isBelow, HQ4.out, HBK.out⟩

theorem book_meet (c : S27) (A : Option Addr) (cn g bm n : Nat) (ls : List (List UInt8)) (op : List Int) (w0 w : World) (h : IsBook w0 w g bm n ls op) (hn : n < maxLen) (hop : op.length ≤ 16) (hps : Kd.C k117 w A c.f9.length c.f9) (hcn : c.f9.length ≤ cn)
    (r : Int) (ls' : List (List UInt8)) (op' : List Int) (hm : meetF c ls op = some (r, ls', op')) :
    Calls Try.prog 52 #[.pointer (some ⟨g, 0, none⟩), .agg #[.int .i64 c.f0, .int .i64 c.f1.f0, .int .i64 c.f1.f1, .string c.f1.f2, .int .i64 c.f2.f0, .int .i64 c.f2.f1, .string c.f2.f2, .bool c.f3, .int .u8 c.f4, .string c.f5, .string c.f6, .string c.f7, .string c.f8, .slice A c.f9.length cn, .int .i64 c.f10, .bool c.f11, .bool c.f12, .string c.f13, .string c.f14]] w
      fun e w' => e = .returned (.int .i64 r) ∧ Below w0.heap.size w0 w' ∧ Keeps w w' ∧ (r = 0 → IsBook w0 w' g bm (n + 1) ls' op') := by
  unfold meetF at hm
  obtain ⟨e, he, hm⟩ := Option.map_eq_some_iff.1 hm
  exact book_meet_ c.f0 c.f1.f0 c.f1.f1 c.f1.f2 c.f2.f0 c.f2.f1 c.f2.f2 c.f3 c.f4 c.f5 c.f6 c.f7 c.f8 c.f9 c.f10 c.f11 c.f12 c.f13 c.f14 e A cn g bm n ls op w0 w h hn hop hps hcn r ls' op' he hm
end Go.Proofs.Ytdlbmajilmmapaa.F
