/- Texts of this claim, 11 of 19: TextSt, F26, F48. -/
import Derived.RangeFuncBox
import Derived.RangeFuncNested
import Derived.RangeFuncLeaves
import Derived.Maps.AppendAt
import Derived.Laws.AppendOwnNone
import Derived.Test.YtcmipoicnonaeaaDoorKF6
section
namespace Go.Proofs.YtcmipoicnonaeaaDoor.F
open Go.RowKit Go.Proofs.YtcmipoicnonaeaaDoorW.PrintWords
set_option linter.unusedVariables false
set_option linter.unusedSimpArgs false
def enc8 (xs : List UInt8) : List Value := xs.map (fun b => Value.int .u8 (b.toNat : Int))
theorem enc8_length (xs : List UInt8) : (enc8 xs).length = xs.length := by simp [enc8]
theorem enc8_append (xs ys : List UInt8) : enc8 (xs ++ ys) = enc8 xs ++ enc8 ys := by simp [enc8]
theorem enc8_one (xs : List UInt8) : ∀ u ∈ enc8 xs, u.oneCell' = true := by
  intro u hu
  obtain ⟨b, _, rfl⟩ := List.mem_map.1 hu
  rfl
def TS (n₀ Bo Br : Nat) (xo xr : List UInt8) (W : World) : Prop :=
  ∃ vo vr, Boxed W Bo 61 vo ∧ Boxed W Br 61 vr ∧ W.ownsRow n₀ 5 1 vo xo.length (enc8 xo) ∧ W.ownsRow n₀ 5 1 vr xr.length (enc8 xr) ∧ (xr = [] → vr = .slice none 0 0) ∧ (vo.ownBlock = none ∨ vo.ownBlock ≠ vr.ownBlock)
theorem row_own {W : World} {n₀ e size n : Nat} {v : Value} {xs : List Value} (h : W.ownsRow n₀ e size v n xs) (hn : 0 < n) :
    ∃ g cap cur, v = .slice (some ⟨g, 0, none⟩) n cap ∧ n₀ ≤ g ∧ W.heap[g]? = some (.cells cur e (0, 0)) ∧ n ≤ cap ∧ cap ≤ maxLen ∧ v.ownBlock = some g := by
  rcases h.2 with ⟨rfl, h0⟩ | ⟨g, cap, cur, rfl, hb, hg, hc, hm, _⟩
  · omega
  · exact ⟨g, cap, cur, rfl, hb, hg, hc, hm, rfl⟩
theorem row_cells {W : World} {n₀ e size n : Nat} {v : Value} {xs : List Value} (h : W.ownsRow n₀ e size v n xs) : ∀ (j : Nat) (o : Obj), v.ownBlock = some j → W.heap[j]? = some o → o.isCells = true := by
  intro j o hj ho
  rcases h.2 with ⟨rfl, _⟩ | ⟨g, cap, cur, rfl, hb, hg, _⟩
  · simp [Value.ownBlock] at hj
  · simp [Value.ownBlock] at hj
    subst hj
    rw [hg] at ho
    cases ho
    rfl
def KB (Bo Br : Nat) (W W' : World) : Prop := ∀ (B : Nat) (t : TypeId) (v : Value), Boxed W B t v → t ≠ 5 → B ≠ Bo → B ≠ Br → Boxed W' B t v
theorem KB.refl (Bo Br : Nat) (W : World) : KB Bo Br W W := fun _ _ _ h _ _ _ => h
theorem KB.trans {Bo Br : Nat} {X Y Z : World} (h : KB Bo Br X Y) (k : KB Bo Br Y Z) : KB Bo Br X Z := fun B t v hb ht h1 h2 => k B t v (h B t v hb ht h1 h2) ht h1 h2
theorem KB.setO {Bo Br : Nat} {X Y : World} (h : KB Bo Br X Y) (u : Value) : KB Bo Br X (Y.setCell ⟨Bo, 0, none⟩ u) := fun B t v hb ht h1 h2 => (h B t v hb ht h1 h2).other h1 u
theorem KB.setR {Bo Br : Nat} {X Y : World} (h : KB Bo Br X Y) (u : Value) : KB Bo Br X (Y.setCell ⟨Br, 0, none⟩ u) := fun B t v hb ht h1 h2 => (h B t v hb ht h1 h2).other h2 u
theorem KB.alloc {Bo Br : Nat} (X : World) (o : Obj) : KB Bo Br X (X.alloc o) := fun B t v hb ht h1 h2 => hb.alloc o
theorem KB.row {Bo Br : Nat} {X Y : World} {n₀ n : Nat} {v : Value} {xs : List Value} (hr : X.ownsRow n₀ 5 1 v n xs) (hg : X.grownBy Y v.ownBlock) : KB Bo Br X Y := fun B t u hb ht h1 h2 => hb.kept hg (hb.not_row ht hr)
theorem KB.runs {Bo Br : Nat} {X Y : World} (hg : X.grownBy Y (some Br)) : KB Bo Br X Y := fun B t u hb ht h1 h2 => hb.kept hg (fun e => h2 (by cases e; rfl))
theorem appendedB {W w1 : World} {n₀ B : Nat} {t e : TypeId} {size : Nat} {v v' : Value} {k m : Nat} {xs ys : List Value}
    (hv : Boxed W B t v) (hte : t ≠ e) (hrow : W.ownsRow n₀ e size v k xs) (hn₀ : n₀ ≤ W.heap.size) (hB : n₀ ≤ B)
    (hown' : w1.ownsRow n₀ e size v' m ys) (hgrow : W.grownBy w1 v.ownBlock) :
    Boxed w1 B t v ∧ Boxed (w1.setCell ⟨B, 0, none⟩ v') B t v' ∧ (w1.setCell ⟨B, 0, none⟩ v').ownsRow n₀ e size v' m ys ∧ KeepsOthers W (w1.setCell ⟨B, 0, none⟩ v') ∧ Below n₀ W (w1.setCell ⟨B, 0, none⟩ v') := by
  have hv1 : Boxed w1 B t v := hv.kept hgrow (hv.not_row hte hrow)
  refine ⟨hv1, hv1.set v', hown'.kept (grownBy_setCell' w1 B v') (.inr (hv1.not_row hte hown').symm), ?_, ?_⟩
  · exact (KeepsOthers.of_grownBy hgrow (row_cells hrow)).trans (KeepsOthers.setCell _ _ _)
  · refine ((Below.refl n₀ W).grown hgrow hn₀ fun j ej => ?_).setCell (p := ⟨B, 0, none⟩) hB v'
    exact (hrow.lt j ej).1
theorem below_of_grown {W W' : World} {n₀ : Nat} {row : Option Nat} (hg : W.grownBy W' row) (hn : n₀ ≤ W.heap.size) (hr : ∀ j, row = some j → n₀ ≤ j) : Below n₀ W W' := (Below.refl n₀ W).grown hg hn hr
theorem TS.own_ne {W : World} {n₀ e size n : Nat} {v : Value} {xs : List Value} (h : W.ownsRow n₀ e size v n xs) : v.ownBlock = none ∨ v.ownBlock ≠ some W.heap.size := by
  cases hv : v.ownBlock with
  | none => exact .inl rfl
  | some g =>
    refine .inr (fun e => ?_)
    have := (h.lt g hv).2
    cases e
    omega
theorem TS.alloc {n₀ Bo Br : Nat} {xo xr : List UInt8} {W : World} (h : TS n₀ Bo Br xo xr W) (o : Obj) : TS n₀ Bo Br xo xr (W.alloc o) := by
  obtain ⟨vo, vr, h1, h2, h3, h4, h5, h6⟩ := h
  exact ⟨vo, vr, h1.alloc o, h2.alloc o, h3.alloc o, h4.alloc o, h5, h6⟩
theorem TS.own (n₀ Bo Br : Nat) {β : Type} (fo fr : β → List UInt8) : Own (fun (s : β) W => TS n₀ Bo Br (fo s) (fr s) W) := by
  rintro s X Y row ⟨vo, vr, h1, h2, h3, h4, h5, h6⟩ hg hrow
  have hbox : ∀ {B : Nat} {v : Value}, Boxed X B 61 v → some B ≠ row := fun hb e => by
    obtain ⟨o, ho, hc⟩ := hrow _ e.symm
    rw [show X.heap[_]? = _ from hb] at ho; cases ho; cases hc
  have hr : ∀ {v : Value} {n : Nat} {xs : List Value}, X.ownsRow n₀ 5 1 v n xs → v.ownBlock = none ∨ v.ownBlock ≠ row := fun {v n xs} hw => by
    cases hv : v.ownBlock with
    | none => exact .inl rfl
    | some g =>
      refine .inr (fun e => ?_)
      obtain ⟨o, ho, hc⟩ := hrow g e.symm
      have := row_cells hw g o hv ho
      rw [hc] at this; cases this
  exact ⟨vo, vr, h1.kept hg (hbox h1), h2.kept hg (hbox h2), h3.kept hg (hr h3), h4.kept hg (hr h4), h5, h6⟩
theorem cells_new (w : World) (ys : List Value) (t : TypeId) (cs : Array Value) (has : cs = ys.toArray) : ∀ j u, ys[j]? = some u → (w.alloc (.cells cs t)).cell? ((⟨w.heap.size, 0, none⟩ : Addr).add j) = some u := by
  intro j u hu
  subst has
  have h := blk_cell (blk_new w (.cells ys.toArray t)) j
  have e : ((⟨w.heap.size, 0, none⟩ : Addr).add j) = ⟨w.heap.size, j, none⟩ := by simp [Addr.add]; exact fun h => h.symm
  rw [e]
  exact h.trans (by simpa using hu)
theorem TS_push {n₀ Bo Br : Nat} {xo xr : List UInt8} {W w1 : World} {vo vr v' : Value} {b : UInt8} {o : Obj} (hbo : Boxed W Bo 61 vo) (hbr : Boxed W Br 61 vr) (hro : W.ownsRow n₀ 5 1 vo xo.length (enc8 xo)) (hrr : W.ownsRow n₀ 5 1 vr xr.length (enc8 xr)) (hd : vo.ownBlock = none ∨ vo.ownBlock ≠ vr.ownBlock)
    (hnW : n₀ ≤ W.heap.size) (hBr : n₀ ≤ Br) (hne : Bo ≠ Br) (hown' : w1.ownsRow n₀ 5 1 v' (xr.length + 1) (enc8 xr ++ [.int .u8 (b.toNat : Int)])) (hgrow : (W.alloc o).grownBy w1 vr.ownBlock) (hat : v'.ownBlock = vr.ownBlock ∨ v'.ownBlock = some (W.alloc o).heap.size) :
    Boxed w1 Br 61 vr ∧ TS n₀ Bo Br xo (xr ++ [b]) (w1.setCell ⟨Br, 0, none⟩ v') ∧ KeepsOthers W (w1.setCell ⟨Br, 0, none⟩ v') ∧ Below n₀ W (w1.setCell ⟨Br, 0, none⟩ v') ∧ KB Bo Br W (w1.setCell ⟨Br, 0, none⟩ v') := by
  obtain ⟨h1, h2, h3, h4, h5⟩ := hbr.appended (by decide) hrr hnW hBr hown' hgrow
  have hbo1 : Boxed w1 Bo 61 vo := (hbo.alloc o).kept hgrow (hbo.not_row (by decide) hrr)
  have hro1 : w1.ownsRow n₀ 5 1 vo xo.length (enc8 xo) := (hro.alloc o).kept hgrow hd
  refine ⟨h1, ⟨vo, v', hbo1.other hne _, h2, hro1.kept (grownBy_setCell' w1 Br _) (.inr (h1.not_row (by decide) hro1).symm), ?_, fun h => by simp at h, ?_⟩, h4, h5, ((KB.alloc W o).trans (KB.row (hrr.alloc o) hgrow)).setR _⟩
  · rw [enc8_append, List.length_append]
    exact h3
  · rcases hat with hat | hat
    · rw [hat]; exact hd
    · rw [hat]
      exact TS.own_ne (hro.alloc o)
theorem TS_out {n₀ Bo Br : Nat} {xo ys : List UInt8} {W w1 : World} {vo v' : Value} {o : Obj} (hbo : Boxed W Bo 61 vo) (hbr : Boxed W Br 61 (.slice none 0 0)) (hro : W.ownsRow n₀ 5 1 vo xo.length (enc8 xo))
    (hnW : n₀ ≤ W.heap.size) (hBo : n₀ ≤ Bo) (hne : Bo ≠ Br) (hown' : w1.ownsRow n₀ 5 1 v' (xo.length + ys.length) (enc8 xo ++ enc8 ys)) (hgrow : (W.alloc o).grownBy w1 vo.ownBlock) :
    Boxed w1 Bo 61 vo ∧ TS n₀ Bo Br (xo ++ ys) [] (w1.setCell ⟨Bo, 0, none⟩ v') ∧ KeepsOthers W (w1.setCell ⟨Bo, 0, none⟩ v') ∧ Below n₀ W (w1.setCell ⟨Bo, 0, none⟩ v') ∧ KB Bo Br W (w1.setCell ⟨Bo, 0, none⟩ v') := by
  obtain ⟨h1, h2, h3, h4, h5⟩ := hbo.appended (by decide) hro hnW hBo hown' hgrow
  have hbr1 : Boxed w1 Br 61 (.slice none 0 0) := (hbr.alloc o).kept hgrow (hbr.not_row (by decide) hro)
  refine ⟨h1, ⟨v', .slice none 0 0, h2, hbr1.other (fun h => hne h.symm) _, ?_, World.ownsRow_nil _ _ _ _, fun _ => rfl, ?_⟩, h4, h5, ((KB.alloc W o).trans (KB.row (hro.alloc o) hgrow)).setO _⟩
  · rw [enc8_append, List.length_append]
    exact h3
  · cases h : v'.ownBlock with
    | none => exact .inl rfl
    | some g => exact .inr (by simp [Value.ownBlock])
def squeeze (xr : List UInt8) : List UInt8 := if 2 < xr.length then [xr.headD 0, 45, xr.getLastD 0] else xr
theorem flush_done {W : World} {n₀ Bo Br n : Nat} {v' vr : Value} {xs : List UInt8} (hv : Boxed W Bo 61 v') (hb : Boxed W Br 61 vr) (hr : W.ownsRow n₀ 5 1 v' n (enc8 xs)) (hn : n = xs.length) (hne : Bo ≠ Br) (hB : n₀ ≤ Br) :
    TS n₀ Bo Br xs [] (W.setCell ⟨Br, 0, none⟩ (.slice none 0 0)) ∧ KeepsOthers W (W.setCell ⟨Br, 0, none⟩ (.slice none 0 0)) ∧ Below n₀ W (W.setCell ⟨Br, 0, none⟩ (.slice none 0 0)) := by
  subst hn
  refine ⟨⟨v', .slice none 0 0, hv.other hne _, hb.set _, hr.kept (grownBy_setCell' W Br _) (.inr (hb.not_row (by decide) hr).symm), World.ownsRow_nil _ _ _ _, fun _ => rfl, ?_⟩, KeepsOthers.setCell _ _ _, (Below.refl n₀ W).setCell (p := ⟨Br, 0, none⟩) hB _⟩
  cases h : v'.ownBlock with
  | none => exact .inl rfl
  | some g => exact .inr (by simp [Value.ownBlock])
end Go.Proofs.YtcmipoicnonaeaaDoor.F
end
section
namespace Go.Proofs.YtcmipoicnonaeaaDoor.F
open Go.RowKit Go.Proofs.YtcmipoicnonaeaaDoorW.PrintWords Go.Proofs.YtcmipoicnonaeaaDoorW.PrintLast Go.Proofs.YtcmipoicnonaeaaDoorW.PrintMore
set_option linter.unusedVariables false
set_option linter.unusedSimpArgs false
def flush_T1 : Bool × List (List Nat × List Nat) := (true, [([], []), ([0], [0]), ([1], [1]), ([], []), ([], []), ([4], [4]), ([5], [5]), ([3, 6], [3, 6]), ([7], [7]), ([2, 8], [2, 8]), ([9, 0, 1, 2, 3, 4, 5, 6, 7, 8, 9], [9])])
def flush_B1 : List Nat := [0, 1, 3, 0, 0, 16, 48, 120, 248, 511, 1023]
theorem flush_tab1 : rtab .any (opsOf Tryd.f26 1) = flush_T1 := by kernel_rfl
theorem flush_bits1 : waitsOk flush_T1.2 flush_B1 = true := by kernel_rfl
theorem info8 : (Tryd.prog.info? 5).map (fun i => (i.zero, i.size, i.bytes)) = some (some (.int .u8 0), 1, 1) := by kernel_rfl
set_option maxHeartbeats 4000000 in
set_option maxRecDepth 100000 in
theorem flush_short (n₀ Bo Br : Nat) (xo xr : List UInt8) (W : World) (hnW : n₀ ≤ W.heap.size) (hBo : n₀ ≤ Bo) (hBr : n₀ ≤ Br) (hne : Bo ≠ Br) (hT : TS n₀ Bo Br xo xr W) (hlen : xo.length + xr.length ≤ 4096) (h0 : 0 < xr.length) (h2 : xr.length ≤ 2) :
    Calls Tryd.prog 26 #[.pointer (some ⟨Br, 0, none⟩), .pointer (some ⟨Bo, 0, none⟩)] W fun e W' => (∃ v, e = .returned v) ∧ TS n₀ Bo Br (xo ++ xr) [] W' ∧ KeepsOthers W W' ∧ Below n₀ W W' ∧ KB Bo Br W W' := by
  obtain ⟨i0, hi, hz0, hz1, hz2⟩ := info_parts info8
  obtain ⟨vo, vr, hbo, hbr, hro, hrr, hnil, _⟩ := hT
  obtain ⟨gr, cr, cur, rfl, hgr, _, _, _, _⟩ := row_own hrr h0
  have hco := hbo.cell
  have hcr := hbr.cell
  have hfo := hbo.frozen
  have hfr := hbr.frozen
  have hl3 : decide ((2 : Int) < (xr.length : Int)) = false := decide_eq_false (by omega)
  have hne2 : ¬ Br = Bo := fun h => hne h.symm
  have h4 := Aside0.mk hlen
  clear hlen
  go_enter Tryd.func26, Tryd.ntmps26
  go_wp2_with ((with_reducible refine gate_builtin (b := .append) (xs := #[.tmp 15, .tmp 16]) rfl ?_); at_builtin; refine wpList_append_own _ rfl _ _ 61 rfl n₀ 5 i0 (.int .u8 0) 1 1 Tryd.underlying61 hi hz0 hz1 hz2 rfl (by decide) _ _ _ rfl hro ⟨gr, 0, none⟩ xr.length cr (enc8 xr) rfl (by rw [enc8_length]; first | rfl | omega) (hrr.cells (g := gr) rfl) (enc8_one _) (by have := h4.out; simp only [maxLen]; omega) (by have := h4.out; omega) hnW ?_; intro v' w1 hown' hgrow _; obtain ⟨hv1, hv2, hr2, hk2, hb2⟩ := appendedB hbo (by decide) hro hnW hBo hown' hgrow; have hc1 := hv1.cell; have hf1 := hv1.frozen; have hrb := (hbr.kept hgrow (hbr.not_row (by decide) hro)); have hrc := hrb.cell; have hrf := hrb.frozen; have hrb2 := Aside0.mk (hrb.other hne2 v'); have hqA := Aside0.mk ((KB.row (Bo := Bo) (Br := Br) hro hgrow).setO v'); obtain ⟨go, co, cuo, rfl, _⟩ := row_own hown' (by omega); have hkA := Aside0.mk hk2; have hbA := Aside0.mk hb2; have hrA := Aside0.mk hr2; have hvA := Aside0.mk hv2; clear hk2 hb2 hr2 hv2 hrb hv1)
  go_end0
  have hrA2 := hrA.out
  rw [← enc8_append] at hrA2
  obtain ⟨hT, hK, hB⟩ := flush_done (n₀ := n₀) hvA.out hrb2.out hrA2 (by simp) hne hBr
  exact ⟨⟨_, rfl⟩, hT, hkA.out.trans hK, hbA.out.trans hB, hqA.out.setR _⟩
set_option maxHeartbeats 4000000 in
set_option maxRecDepth 100000 in
theorem flush_none (n₀ Bo Br : Nat) (xo xr : List UInt8) (W : World) (hnW : n₀ ≤ W.heap.size) (hBo : n₀ ≤ Bo) (hBr : n₀ ≤ Br) (hne : Bo ≠ Br) (hT : TS n₀ Bo Br xo xr W) (hlen : xo.length + xr.length ≤ 4096) (h0 : xr = []) (hxo : 0 < xo.length) :
    Calls Tryd.prog 26 #[.pointer (some ⟨Br, 0, none⟩), .pointer (some ⟨Bo, 0, none⟩)] W fun e W' => (∃ v, e = .returned v) ∧ TS n₀ Bo Br xo [] W' ∧ KeepsOthers W W' ∧ Below n₀ W W' ∧ KB Bo Br W W' := by
  obtain ⟨i0, hi, hz0, hz1, hz2⟩ := info_parts info8
  obtain ⟨vo, vr, hbo, hbr, hro, hrr, hnil, _⟩ := hT
  subst h0
  obtain rfl := hnil rfl
  obtain ⟨go, co, cuo, rfl, hgo, _, _, _, _⟩ := row_own hro hxo
  have hco := hbo.cell
  have hcr := hbr.cell
  have hfo := hbo.frozen
  have hfr := hbr.frozen
  have hne2 : ¬ Br = Bo := fun h => hne h.symm
  have h4 := Aside0.mk hlen
  clear hlen
  go_enter Tryd.func26, Tryd.ntmps26
  go_wp2_with ((with_reducible refine gate_builtin (b := .append) (xs := #[.tmp 15, .tmp 16]) rfl ?_); at_builtin; refine wpList_append_own_none rfl _ _ 61 rfl n₀ 5 i0 1 Tryd.underlying61 hi _ _ _ rfl hro rfl ?_)
  go_end0
  have hb2 : Boxed (W.setCell ⟨Bo, 0, none⟩ (.slice (some ⟨go, 0, none⟩) xo.length co)) Br 61 (.slice none 0 0) := hbr.other hne2 _
  have hr2 : (W.setCell ⟨Bo, 0, none⟩ (.slice (some ⟨go, 0, none⟩) xo.length co)).ownsRow n₀ 5 1 (.slice (some ⟨go, 0, none⟩) xo.length co) xo.length (enc8 xo) := hro.kept (grownBy_setCell' W Bo _) (.inr (hbo.not_row (by decide) hro).symm)
  obtain ⟨hT, hK, hB⟩ := flush_done (n₀ := n₀) (hbo.set (.slice (some ⟨go, 0, none⟩) xo.length co)) hb2 hr2 rfl hne hBr
  exact ⟨⟨_, rfl⟩, hT, (KeepsOthers.setCell W ⟨Bo, 0, none⟩ _).trans hK, (((Below.refl n₀ W).setCell (p := ⟨Bo, 0, none⟩) hBo _)).trans hB, ((KB.refl Bo Br W).setO _).setR _⟩
set_option maxHeartbeats 4000000 in
set_option maxRecDepth 100000 in
theorem flush_long (n₀ Bo Br : Nat) (xo xr : List UInt8) (W : World) (hnW : n₀ ≤ W.heap.size) (hBo : n₀ ≤ Bo) (hBr : n₀ ≤ Br) (hne : Bo ≠ Br) (hT : TS n₀ Bo Br xo xr W) (hlen : xo.length + xr.length ≤ 4096) (x0 xl : UInt8) (h2 : 2 < xr.length) (hx0 : xr[0]? = some x0) (hxl : xr[xr.length - 1]? = some xl) :
    Calls Tryd.prog 26 #[.pointer (some ⟨Br, 0, none⟩), .pointer (some ⟨Bo, 0, none⟩)] W fun e W' => (∃ v, e = .returned v) ∧ TS n₀ Bo Br (xo ++ [x0, 45, xl]) [] W' ∧ KeepsOthers W W' ∧ Below n₀ W W' ∧ KB Bo Br W W' := by
  obtain ⟨i0, hi, hz0, hz1, hz2⟩ := info_parts info8
  obtain ⟨vo, vr, hbo, hbr, hro, hrr, hnil, _⟩ := hT
  obtain ⟨gr, cr, cur, rfl, hgr, hgh, _, _, _⟩ := row_own hrr (by omega)
  have hco := hbo.cell
  have hcr := hbr.cell
  have hfo := hbo.frozen
  have hfr := hbr.frozen
  have hl3 : decide ((2 : Int) < (xr.length : Int)) = true := decide_eq_true (by omega)
  have hne2 : ¬ Br = Bo := fun h => hne h.symm
  have hgb : gr ≠ Br := fun h => by subst h; have := (show W.heap[gr]? = _ from hbr).symm.trans hgh; cases this
  obtain ⟨jl, hjl⟩ : ∃ j : Int, IntKind.i64.wrap ((xr.length : Int) - 1) = j := ⟨_, rfl⟩
  have hjv : jl = (xr.length : Int) - 1 := by rw [← hjl, i64_w]; exact wrap_id (by omega) (by omega)
  have hxn : ¬ xr = [] := fun h => by subst h; cases h2
  have hp : (0 ≤ jl) = True := eq_true (by omega)
  have hq : (jl < (xr.length : Int)) = True := eq_true (by omega)
  have hp0 : ((0 : Int) < (xr.length : Int)) = True := eq_true (by omega)
  have hjn : jl.toNat = xr.length - 1 := by omega
  have hcx0 : W.cell? ⟨gr, 0, none⟩ = some (.int .u8 (x0.toNat : Int)) := hrr.cells (g := gr) rfl 0 _ (by simp [enc8, hx0])
  have hcxl : W.cell? ⟨gr, jl.toNat, none⟩ = some (.int .u8 (xl.toNat : Int)) := by
    have := hrr.cells (g := gr) rfl (xr.length - 1) (.int .u8 (xl.toNat : Int)) (by simp [enc8, hxl])
    rw [hjn]
    rw [show ((⟨gr, 0, none⟩ : Addr).add (xr.length - 1)) = ⟨gr, xr.length - 1, none⟩ by simp [Addr.add]; omega] at this
    exact this
  have h4 := Aside0.mk (show xo.length + 3 ≤ 4096 by omega)
  clear hlen hjv hjn
  go_enter Tryd.func26, Tryd.ntmps26
  go_wp2
  refine start_ (n := 11) (S := fun w' => True) (ds := []) #[false, false, false, false, false, false, false, false, false, false, false] (by kernel_rfl) rfl rfl trivial (fun hHeld => ?_)
  refine with_tabW flush_tab1 flush_bits1 (fun HT_ HW_ => ?_)
  clear hco hcr hfo hfr
  generalize hW : World.drew _ = W4 at hHeld ⊢
  have HG4 : Aside0 (W.grownBy W4 (some Br)) := by subst hW; exact ⟨⟨rfl, rfl, rfl, Nat.le_refl _, fun _ _ _ => rfl⟩⟩
  have HR4 : Aside0 (Boxed W4 Br 61 (.slice (some ⟨gr, 0, none⟩) xr.length cr)) := by subst hW; exact ⟨hbr⟩
  clear hW
  refine inv_at [0, 1, 2, 3, 4, 5, 6, 7, 8, 9, 10] (fun a0_ b_ a w' => ∃ gL : Nat, a = putSel a0_ b_ [(0, 5, .slice (some ⟨gr, 0, none⟩) xr.length cr), (1, 6, .pointer (some ⟨gr, 0, none⟩)), (2, 7, .int .u8 (x0.toNat : Int)), (3, 8, .slice (some ⟨gr, 0, none⟩) xr.length cr), (4, 9, .slice (some ⟨gr, 0, none⟩) xr.length cr), (5, 10, .int .i64 (xr.length : Int)), (6, 11, .int .i64 jl), (7, 12, .pointer (some ⟨gr, jl.toNat, none⟩)), (8, 13, .int .u8 (xl.toNat : Int)), (9, 14, .slice (some ⟨gL, 0, none⟩) 3 3)] ∧ W.grownBy w' (some Br) ∧ (b_ 10 = false → Boxed w' Br 61 (.slice (some ⟨gr, 0, none⟩) xr.length cr)) ∧ (b_ 10 = true → Boxed w' Br 61 (.slice (some ⟨gL, 0, none⟩) 3 3)) ∧ (b_ 9 = true → w'.heap[gL]? = some (.cells #[.int .u8 (x0.toNat : Int), .int .u8 45, .int .u8 (xl.toNat : Int)] 5 (0, 0)) ∧ W.heap.size ≤ gL)) HT_.out HW_.out (by kernel_rfl) (by kernel_rfl) ?_ ?_ ?_
  · exact ⟨0, by simp only [putSel, Bool.false_eq_true, if_false], HG4.out, (fun _ => HR4.out), (fun h => by cases h), (fun h => by cases h)⟩
  · skip
    refine steps_cons ?_ ?_
    · rintro b_ a w' ⟨gL, ha, hG, hr, hR, hL⟩ hb_ hon hoff
      refine ⟨_, rfl, fun K hK_ => ?_⟩
      have e0 : a.tmps[0]? = some (.pointer (some ⟨Br, 0, none⟩)) := by rw [ha]; exact (putSel_off rfl).trans rfl
      replace ha := Aside0.mk ha
      have hrb := hr (hoff 10 (by kernel_rfl))
      have hcr := hrb.cell
      refine value_ (w1 := w') (v := .slice (some ⟨gr, 0, none⟩) xr.length cr) (by rfl) rfl (by go_simp; try rfl) ?_
      exact hK_.out _ _ ⟨gL, by rw [ha.out]; exact putSel_upk 0 hb_ rfl rfl rfl, hG, hr, hR, hL⟩
    refine steps_cons ?_ ?_
    · rintro b_ a w' ⟨gL, ha, hG, hr, hR, hL⟩ hb_ hon hoff
      refine ⟨_, rfl, fun K hK_ => ?_⟩
      have e5 : a.tmps[5]? = some (.slice (some ⟨gr, 0, none⟩) xr.length cr) := by rw [ha]; exact putSel_on (e := (0, 5, .slice (some ⟨gr, 0, none⟩) xr.length cr)) 0 rfl rfl (hon 0 (by kernel_rfl)) rfl
      replace ha := Aside0.mk ha
      refine value_ (w1 := w') (v := .pointer (some ⟨gr, 0, none⟩)) (by rfl) rfl (by go_simp; try rfl) ?_
      exact hK_.out _ _ ⟨gL, by rw [ha.out]; exact putSel_upk 1 hb_ rfl rfl rfl, hG, hr, hR, hL⟩
    refine steps_cons ?_ ?_
    · rintro b_ a w' ⟨gL, ha, hG, hr, hR, hL⟩ hb_ hon hoff
      refine ⟨_, rfl, fun K hK_ => ?_⟩
      have e6 : a.tmps[6]? = some (.pointer (some ⟨gr, 0, none⟩)) := by rw [ha]; exact putSel_on (e := (1, 6, .pointer (some ⟨gr, 0, none⟩))) 1 rfl rfl (hon 1 (by kernel_rfl)) rfl
      replace ha := Aside0.mk ha
      have hx := hG.cell hcx0 (by simpa using fun h => hgb h)
      refine value_ (w1 := w') (v := .int .u8 (x0.toNat : Int)) (by rfl) rfl (by go_simp; try rfl) ?_
      exact hK_.out _ _ ⟨gL, by rw [ha.out]; exact putSel_upk 2 hb_ rfl rfl rfl, hG, hr, hR, hL⟩
    refine steps_cons ?_ ?_
    · rintro b_ a w' ⟨gL, ha, hG, hr, hR, hL⟩ hb_ hon hoff
      refine ⟨_, rfl, fun K hK_ => ?_⟩
      have e0 : a.tmps[0]? = some (.pointer (some ⟨Br, 0, none⟩)) := by rw [ha]; exact (putSel_off rfl).trans rfl
      replace ha := Aside0.mk ha
      have hrb := hr (hoff 10 (by kernel_rfl))
      have hcr := hrb.cell
      refine value_ (w1 := w') (v := .slice (some ⟨gr, 0, none⟩) xr.length cr) (by rfl) rfl (by go_simp; try rfl) ?_
      exact hK_.out _ _ ⟨gL, by rw [ha.out]; exact putSel_upk 3 hb_ rfl rfl rfl, hG, hr, hR, hL⟩
    refine steps_cons ?_ ?_
    · rintro b_ a w' ⟨gL, ha, hG, hr, hR, hL⟩ hb_ hon hoff
      refine ⟨_, rfl, fun K hK_ => ?_⟩
      have e0 : a.tmps[0]? = some (.pointer (some ⟨Br, 0, none⟩)) := by rw [ha]; exact (putSel_off rfl).trans rfl
      replace ha := Aside0.mk ha
      have hrb := hr (hoff 10 (by kernel_rfl))
      have hcr := hrb.cell
      refine value_ (w1 := w') (v := .slice (some ⟨gr, 0, none⟩) xr.length cr) (by rfl) rfl (by go_simp; try rfl) ?_
      exact hK_.out _ _ ⟨gL, by rw [ha.out]; exact putSel_upk 4 hb_ rfl rfl rfl, hG, hr, hR, hL⟩
    refine steps_cons ?_ ?_
    · rintro b_ a w' ⟨gL, ha, hG, hr, hR, hL⟩ hb_ hon hoff
      refine ⟨_, rfl, fun K hK_ => ?_⟩
      have e9 : a.tmps[9]? = some (.slice (some ⟨gr, 0, none⟩) xr.length cr) := by rw [ha]; exact putSel_on (e := (4, 9, .slice (some ⟨gr, 0, none⟩) xr.length cr)) 4 rfl rfl (hon 4 (by kernel_rfl)) rfl
      replace ha := Aside0.mk ha
      refine value_ (w1 := w') (v := .int .i64 (xr.length : Int)) (by rfl) rfl (by go_simp; try rfl) ?_
      exact hK_.out _ _ ⟨gL, by rw [ha.out]; exact putSel_upk 5 hb_ rfl rfl rfl, hG, hr, hR, hL⟩
    refine steps_cons ?_ ?_
    · rintro b_ a w' ⟨gL, ha, hG, hr, hR, hL⟩ hb_ hon hoff
      refine ⟨_, rfl, fun K hK_ => ?_⟩
      have e10 : a.tmps[10]? = some (.int .i64 (xr.length : Int)) := by rw [ha]; exact putSel_on (e := (5, 10, .int .i64 (xr.length : Int))) 5 rfl rfl (hon 5 (by kernel_rfl)) rfl
      replace ha := Aside0.mk ha
      refine value_ (w1 := w') (v := .int .i64 jl) (by rfl) rfl (by go_simp; try rfl) ?_
      exact hK_.out _ _ ⟨gL, by rw [ha.out]; exact putSel_upk 6 hb_ rfl rfl rfl, hG, hr, hR, hL⟩
    refine steps_cons ?_ ?_
    · rintro b_ a w' ⟨gL, ha, hG, hr, hR, hL⟩ hb_ hon hoff
      refine ⟨_, rfl, fun K hK_ => ?_⟩
      have e8 : a.tmps[8]? = some (.slice (some ⟨gr, 0, none⟩) xr.length cr) := by rw [ha]; exact putSel_on (e := (3, 8, .slice (some ⟨gr, 0, none⟩) xr.length cr)) 3 rfl rfl (hon 3 (by kernel_rfl)) rfl
      have e11 : a.tmps[11]? = some (.int .i64 jl) := by rw [ha]; exact putSel_on (e := (6, 11, .int .i64 jl)) 6 rfl rfl (hon 6 (by kernel_rfl)) rfl
      replace ha := Aside0.mk ha
      refine value_ (w1 := w') (v := .pointer (some ⟨gr, jl.toNat, none⟩)) (by rfl) rfl (by go_simp; try rfl) ?_
      exact hK_.out _ _ ⟨gL, by rw [ha.out]; exact putSel_upk 7 hb_ rfl rfl rfl, hG, hr, hR, hL⟩
    refine steps_cons ?_ ?_
    · rintro b_ a w' ⟨gL, ha, hG, hr, hR, hL⟩ hb_ hon hoff
      refine ⟨_, rfl, fun K hK_ => ?_⟩
      have e12 : a.tmps[12]? = some (.pointer (some ⟨gr, jl.toNat, none⟩)) := by rw [ha]; exact putSel_on (e := (7, 12, .pointer (some ⟨gr, jl.toNat, none⟩))) 7 rfl rfl (hon 7 (by kernel_rfl)) rfl
      replace ha := Aside0.mk ha
      have hx := hG.cell hcxl (by simpa using fun h => hgb h)
      refine value_ (w1 := w') (v := .int .u8 (xl.toNat : Int)) (by rfl) rfl (by go_simp; try rfl) ?_
      exact hK_.out _ _ ⟨gL, by rw [ha.out]; exact putSel_upk 8 hb_ rfl rfl rfl, hG, hr, hR, hL⟩
    refine steps_cons ?_ ?_
    · rintro b_ a w' ⟨gL, ha, hG, hr, hR, hL⟩ hb_ hon hoff
      refine ⟨_, rfl, fun K hK_ => ?_⟩
      have e7 : a.tmps[7]? = some (.int .u8 (x0.toNat : Int)) := by rw [ha]; exact putSel_on (e := (2, 7, .int .u8 (x0.toNat : Int))) 2 rfl rfl (hon 2 (by kernel_rfl)) rfl
      have e13 : a.tmps[13]? = some (.int .u8 (xl.toNat : Int)) := by rw [ha]; exact putSel_on (e := (8, 13, .int .u8 (xl.toNat : Int))) 8 rfl rfl (hon 8 (by kernel_rfl)) rfl
      replace ha := Aside0.mk ha
      refine event_step (w1 := w'.alloc (.cells #[.int .u8 (x0.toNat : Int), .int .u8 45, .int .u8 (xl.toNat : Int)] 5 (0, 0))) (v := .slice (some ⟨w'.heap.size, 0, none⟩) 3 3) (by rfl) (by go_simp; try rfl) ?_
      exact hK_.out _ _ ⟨w'.heap.size, by rw [ha.out]; exact putSel_upk 9 hb_ rfl rfl rfl, hG.trans (World.grownBy_alloc w' _ _), (fun h => (hr h).alloc _), (fun h => absurd ((hoff 10 (by kernel_rfl)).symm.trans h) (by decide)), (fun _ => ⟨blk_new w' _, hG.size⟩)⟩
    refine steps_cons ?_ ?_
    · rintro b_ a w' ⟨gL, ha, hG, hr, hR, hL⟩ hb_ hon hoff
      refine ⟨_, rfl, fun K hK_ => ?_⟩
      have e0 : a.tmps[0]? = some (.pointer (some ⟨Br, 0, none⟩)) := by rw [ha]; exact (putSel_off rfl).trans rfl
      have e14 : a.tmps[14]? = some (.slice (some ⟨gL, 0, none⟩) 3 3) := by rw [ha]; exact putSel_on (e := (9, 14, .slice (some ⟨gL, 0, none⟩) 3 3)) 9 rfl rfl (hon 9 (by kernel_rfl)) rfl
      replace ha := Aside0.mk ha
      have hrb := hr hb_
      have hcr := hrb.cell
      have hfr := hrb.frozen
      have hL9 := hL (hon 9 (by kernel_rfl))
      refine skip_ (w1 := w'.setCell ⟨Br, 0, none⟩ (.slice (some ⟨gL, 0, none⟩) 3 3)) (by rfl) rfl (by go_simp; try rfl) ?_
      exact hK_.out _ _ ⟨gL, by rw [ha.out]; exact (putSel_same rfl).symm, hG.trans (grownBy_setCell' w' Br _), (fun h => by cases h), (fun _ => hrb.set _), (fun _ => ⟨(Below.heap_setCell w' ⟨Br, 0, none⟩ _ gL (by show gL ≠ Br; have := hbr.lt; omega)).trans hL9.1, hL9.2⟩)⟩
    exact steps_nil
  · rintro b_ a w' hall ⟨gL, ha, hG, hr, hR, hL⟩
    have hb0_ := hall 0 (by kernel_rfl)
    have hb1_ := hall 1 (by kernel_rfl)
    have hb2_ := hall 2 (by kernel_rfl)
    have hb3_ := hall 3 (by kernel_rfl)
    have hb4_ := hall 4 (by kernel_rfl)
    have hb5_ := hall 5 (by kernel_rfl)
    have hb6_ := hall 6 (by kernel_rfl)
    have hb7_ := hall 7 (by kernel_rfl)
    have hb8_ := hall 8 (by kernel_rfl)
    have hb9_ := hall 9 (by kernel_rfl)
    have hb10_ := hall 10 (by kernel_rfl)
    subst ha
    simp only [putSel, hb0_, hb1_, hb2_, hb3_, hb4_, hb5_, hb6_, hb7_, hb8_, hb9_, hb10_, if_true, Act.put, List.setIfInBounds_toArray, List.set_cons_zero, List.set_cons_succ]
    replace hR := hR hb10_
    obtain ⟨hL, hLs⟩ := hL hb9_
    clear hr HR4 HG4
    have hbo4 : Boxed w' Bo 61 vo := hbo.kept hG (by simpa using hne)
    have hro4 : w'.ownsRow n₀ 5 1 vo xo.length (enc8 xo) := hro.kept hG (.inr (hbr.not_row (by decide) hro).symm)
    have hnL : n₀ ≤ gL := Nat.le_trans hnW hLs
    have hrr4 : w'.ownsRow n₀ 5 1 (.slice (some ⟨gL, 0, none⟩) 3 3) 3 (enc8 [x0, 45, xl]) := ⟨rfl, .inr ⟨gL, 3, _, rfl, hnL, hL, Nat.le_refl _, by decide, rfl, rfl⟩⟩
    have hkG := Aside0.mk (KeepsOthers.of_grownBy hG (fun j o ej ho => by cases ej; rw [show W.heap[Br]? = _ from hbr] at ho; cases ho; rfl))
    have hqG := Aside0.mk (KB.runs (Bo := Bo) hG)
    have hbG := Aside0.mk (below_of_grown hG hnW (fun j ej => by cases ej; exact hBr))
    have hnW4 : n₀ ≤ w'.heap.size := Nat.le_trans hnW hG.size
    have hco := hbo4.cell
    have hcr := hR.cell
    have hfo := hbo4.frozen
    have hfr := hR.frozen
    clear hbo hro hbr hrr hL hcx0 hcxl
    go_wp2_with ((with_reducible refine gate_builtin (b := .append) (xs := #[.tmp 15, .tmp 16]) rfl ?_); at_builtin; refine wpList_append_own _ rfl _ _ 61 rfl n₀ 5 i0 (.int .u8 0) 1 1 Tryd.underlying61 hi hz0 hz1 hz2 rfl (by decide) _ _ _ rfl hro4 ⟨gL, 0, none⟩ 3 3 (enc8 [x0, 45, xl]) rfl (by rw [enc8_length]; first | rfl | omega) (hrr4.cells (g := gL) rfl) (enc8_one _) (by have := h4.out; simp only [maxLen]; omega) (by have := h4.out; omega) hnW4 ?_; intro v' w1 hown' hgrow _; obtain ⟨hv1, hv2, hr2, hk2, hb2⟩ := appendedB hbo4 (by decide) hro4 hnW4 hBo hown' hgrow; have hc1 := hv1.cell; have hf1 := hv1.frozen; have hrb := (hR.kept hgrow (hR.not_row (by decide) hro4)); have hrc := hrb.cell; have hrf := hrb.frozen; have hrb2 := Aside0.mk (hrb.other hne2 v'); have hqA := Aside0.mk ((KB.row (Bo := Bo) (Br := Br) hro4 hgrow).setO v'); obtain ⟨go, co, cuo, rfl, _⟩ := row_own hown' (by omega); have hkA := Aside0.mk hk2; have hbA := Aside0.mk hb2; have hrA := Aside0.mk hr2; have hvA := Aside0.mk hv2; clear hk2 hb2 hr2 hv2 hrb hv1)
    go_end0
    have hrA2 := hrA.out
    rw [← enc8_append] at hrA2
    obtain ⟨hT, hK, hB⟩ := flush_done (n₀ := n₀) hvA.out hrb2.out hrA2 (by simp) hne hBr
    exact ⟨⟨_, rfl⟩, hT, hkG.out.trans (hkA.out.trans hK), hbG.out.trans (hbA.out.trans hB), (hqG.out.trans hqA.out).setR _⟩
theorem flush_calls (n₀ Bo Br : Nat) (xo xr : List UInt8) (W : World) (hnW : n₀ ≤ W.heap.size) (hBo : n₀ ≤ Bo) (hBr : n₀ ≤ Br) (hne : Bo ≠ Br) (hT : TS n₀ Bo Br xo xr W) (hlen : xo.length + xr.length ≤ 4096) (hxo : 0 < xo.length) :
    Calls Tryd.prog 26 #[.pointer (some ⟨Br, 0, none⟩), .pointer (some ⟨Bo, 0, none⟩)] W fun e W' => (∃ v, e = .returned v) ∧ TS n₀ Bo Br (xo ++ squeeze xr) [] W' ∧ KeepsOthers W W' ∧ Below n₀ W W' ∧ KB Bo Br W W' := by
  unfold squeeze
  by_cases h2 : 2 < xr.length
  · rw [if_pos h2]
    match xr, h2 with
    | x :: xr, h2 =>
      refine flush_long n₀ Bo Br xo (x :: xr) W hnW hBo hBr hne hT hlen x ((x :: xr).getLastD 0) h2 rfl ?_
      rw [List.getLastD_eq_getLast?, List.getLast?_eq_getElem?]
      obtain ⟨y, hy⟩ : ∃ y, (x :: xr)[(x :: xr).length - 1]? = some y := ⟨_, List.getElem?_eq_getElem (by simp)⟩
      rw [hy]
      rfl
  · rw [if_neg h2]
    by_cases h0 : xr = []
    · subst h0
      rw [List.append_nil]
      exact flush_none n₀ Bo Br xo [] W hnW hBo hBr hne hT hlen rfl hxo
    · exact flush_short n₀ Bo Br xo xr W hnW hBo hBr hne hT hlen (List.length_pos_iff.2 h0) (by omega)
end Go.Proofs.YtcmipoicnonaeaaDoor.F
end
section
namespace Go.Proofs.YtcmipoicnonaeaaDoor.F
open Go.RowKit Go.Proofs.YtcmipoicnonaeaaDoorW.PrintWords Go.Proofs.YtcmipoicnonaeaaDoorW.PrintLast Go.Proofs.YtcmipoicnonaeaaDoorW.PrintMore
set_option linter.unusedVariables false
set_option linter.unusedSimpArgs false
def dbTab : List Int := [0, 1, 56, 2, 57, 49, 28, 3, 61, 58, 42, 50, 38, 29, 17, 4, 62, 47, 59, 36, 45, 43, 51, 22, 53, 39, 33, 30, 24, 18, 12, 5, 63, 55, 48, 27, 60, 41, 37, 16, 46, 35, 44, 21, 52, 32, 23, 11, 54, 26, 40, 15, 34, 20, 31, 10, 25, 14, 19, 9, 13, 8, 7, 6]
def DB (w : World) : Prop := (∀ i : Nat, i < 64 → w.cell? ⟨0, i, none⟩ = some (.int .u8 (dbTab.getD i 0))) ∧ 0 < w.heap.size
theorem DB.below {w w' : World} {n : Nat} (h : DB w) (hn : 0 < n) (hb : Below n w w') : DB w' :=
  ⟨fun i hi => (hb.cell (p := ⟨0, i, none⟩) hn).trans (h.1 i hi), Nat.lt_of_lt_of_le h.2 hb.size⟩
def tzIx (x : Int) : Int := IntKind.u64.wrap (Go.bits .and .u64 x (IntKind.u64.wrap (-x)) * 285870213051353865) / 288230376151711744
def tz (x : Int) : Int := dbTab.getD (tzIx x).toNat 0
theorem u64_range (x : Int) : 0 ≤ IntKind.u64.wrap x ∧ IntKind.u64.wrap x < 18446744073709551616 := by
  simp only [IntKind.wrap, IntKind.bits, IntKind.signed]
  simp
  omega
theorem tzIx_range (x : Int) : 0 ≤ tzIx x ∧ tzIx x < 64 := by
  have h := u64_range (Go.bits .and .u64 x (IntKind.u64.wrap (-x)) * 285870213051353865)
  unfold tzIx
  omega
theorem dbTab_range (n : Nat) : 0 ≤ dbTab.getD n 0 ∧ dbTab.getD n 0 < 64 := by
  by_cases h : n < 64
  · have := (by decide : ∀ i : Fin 64, 0 ≤ dbTab.getD i.1 0 ∧ dbTab.getD i.1 0 < 64) ⟨n, h⟩
    exact this
  · rw [List.getD_eq_getElem?_getD, List.getElem?_eq_none (by simp [dbTab]; omega)]
    decide
theorem tz_range (x : Int) : 0 ≤ tz x ∧ tz x < 64 := dbTab_range _
set_option maxHeartbeats 2000000 in
set_option maxRecDepth 100000 in
theorem bits_TrailingZeros64_calls (x : Int) (w : World) (hx : x ≠ 0) (hD : DB w) :
    Calls Tryd.prog 48 #[.int .u64 x] w fun e w' => e = .returned (.int .i64 (tz x)) ∧ w' = w := by
  have c1 : (x == 0) = false := beq_eq_false_iff_ne.2 hx
  have hr := tzIx_range x
  have hc := hD.1 (tzIx x).toNat (by omega)
  obtain ⟨k, hk⟩ : ∃ k, tzIx x = k := ⟨_, rfl⟩
  have hk' := hk
  unfold tzIx at hk'
  have hv : tz x = dbTab.getD k.toNat 0 := by unfold tz; rw [hk]
  rw [hk] at hc hr
  rw [hv]
  obtain ⟨p1, q1⟩ := hr
  clear hv hk hD hx
  go_enter Tryd.func48, Tryd.ntmps48
  go_wp2
  go_ret
  have hd := dbTab_range k.toNat
  rw [List.getD_eq_getElem?_getD] at hd ⊢
  exact ⟨congrArg (fun v => Ending.returned (Value.int IntKind.i64 v)) (wrap_id (by omega) (by omega)), rfl⟩
end Go.Proofs.YtcmipoicnonaeaaDoor.F
end
