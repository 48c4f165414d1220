/- Texts of this claim, 13 of 19: F13, F32, F17. -/
import Derived.RangeFuncNested
import Derived.RangeFuncBound
import Derived.RangeFuncCalls
import Derived.RangeFuncLeaves
import Derived.Shelf.Abstract
import Derived.WalkKit
import Derived.OwnWalkIn
import Derived.TacticsInMore
import Derived.LoopNIn
import Derived.LoopIn
import Derived.Maps.OwnIn
import Derived.Laws.EntriesVeiled
import Derived.Test.YtcmipoicnonaeaaDoorKF4
import Derived.Test.YtcmipoicnonaeaaDoorKF5
import Derived.Test.YtcmipoicnonaeaaDoorKF6
import Derived.Test.YtcmipoicnonaeaaDoorKF11
import Derived.Test.YtcmipoicnonaeaaDoorKF12
section
namespace Go.Proofs.YtcmipoicnonaeaaDoor.F
open Go.RowKit Go.Shelf Go.Proofs.YtcmipoicnonaeaaDoorW.PrintWords
set_option linter.unusedVariables false
set_option linter.unusedSimpArgs false
def isSpec (b : UInt8) : Bool := b == 93 || b == 94 || b == 45 || b == 91
def stepT (st : List UInt8 × List UInt8) (b : UInt8) : List UInt8 × List UInt8 :=
  if isSpec b then (st.1 ++ squeeze st.2 ++ [91, 46, b, 46, 93], [])
  else if st.2 ≠ [] ∧ IntKind.u8.wrap (((st.2.getLastD 0).toNat : Int) + 1) ≠ (b.toNat : Int) then (st.1 ++ squeeze st.2, [b])
  else (st.1, st.2 ++ [b])
def foldT (l : List UInt8) : List UInt8 × List UInt8 := l.foldl stepT ([91], [])
theorem foldT_snoc (l : List UInt8) (b : UInt8) : foldT (l ++ [b]) = stepT (foldT l) b := by simp [foldT]
theorem squeeze_len (l : List UInt8) : (squeeze l).length ≤ l.length := by
  unfold squeeze
  split
  · simp; omega
  · exact Nat.le_refl _
theorem stepT_len (st : List UInt8 × List UInt8) (b : UInt8) : (stepT st b).1.length + (stepT st b).2.length ≤ st.1.length + st.2.length + 5 := by
  have := squeeze_len st.2
  unfold stepT
  split
  · simp; omega
  · split <;> simp <;> omega
theorem stepT_pos (st : List UInt8 × List UInt8) (b : UInt8) (h : 0 < st.1.length) : 0 < (stepT st b).1.length := by
  unfold stepT
  split
  · simp; omega
  · split
    · simp; omega
    · exact h
theorem foldT_len (l : List UInt8) : (foldT l).1.length + (foldT l).2.length ≤ 1 + 5 * l.length ∧ 0 < (foldT l).1.length := by
  have : ∀ (l : List UInt8) (st : List UInt8 × List UInt8), 0 < st.1.length → (l.foldl stepT st).1.length + (l.foldl stepT st).2.length ≤ st.1.length + st.2.length + 5 * l.length ∧ 0 < (l.foldl stepT st).1.length := by
    intro l
    induction l with
    | nil => intro st h; exact ⟨by simp, h⟩
    | cons b l ih =>
      intro st h
      have h1 := stepT_len st b
      have h2 := ih (stepT st b) (stepT_pos st b h)
      simp only [List.foldl_cons, List.length_cons]
      exact ⟨by omega, h2.2⟩
  have h := this l ([91], []) (by simp)
  exact ⟨by simpa [foldT] using h.1, h.2⟩
def textL (l : List UInt8) : List UInt8 := (foldT l).1 ++ squeeze (foldT l).2 ++ [93]
theorem special_all : ((List.range 256).all fun n => bracket_special.f ((n.toUInt8).toNat : Int) == some (isSpec n.toUInt8)) = true := by kernel_rfl
theorem special_eq (b : UInt8) : bracket_special.f (b.toNat : Int) = some (isSpec b) := by
  have h := List.all_eq_true.1 special_all b.toNat (List.mem_range.2 b.toNat_lt)
  have hb : b.toNat.toUInt8 = b := by simp
  rw [hb] at h
  exact beq_iff_eq.1 h
theorem last_cell {W : World} {n₀ gr cr : Nat} {xr : List UInt8} {xl : UInt8} (hrr : W.ownsRow n₀ 5 1 (.slice (some ⟨gr, 0, none⟩) xr.length cr) xr.length (enc8 xr)) (hxp : 0 < xr.length) (hxl : xr[xr.length - 1]? = some xl) :
    W.cell? ⟨gr, xr.length - 1, none⟩ = some (.int .u8 (xl.toNat : Int)) := by
  have := hrr.cells (g := gr) rfl (xr.length - 1) (.int .u8 (xl.toNat : Int)) (by simp [enc8, hxl])
  rw [show ((⟨gr, 0, none⟩ : Addr).add (xr.length - 1)) = ⟨gr, xr.length - 1, none⟩ by simp [Addr.add]; omega] at this
  exact this
theorem reads_row {W : World} {n₀ g c n : Nat} {xs : List UInt8} (hn : xs.length = n) (hl : xs.length ≤ 5000) (h : W.ownsRow n₀ 5 1 (.slice (some ⟨g, 0, none⟩) n c) n (enc8 xs)) : ReadsInt W .u8 (some ⟨g, 0, none⟩) n (xs.map (fun b => (b.toNat : Int))) := by
  refine ⟨by simpa using hn, by omega, fun _ => ⟨_, rfl, fun j hj => ?_⟩⟩
  have hj' : j < xs.length := by omega
  have := h.cells (g := g) rfl j (.int .u8 ((xs[j]'hj').toNat : Int)) (by simp [enc8, List.getElem?_eq_getElem hj'])
  rw [List.getD_eq_getElem?_getD, List.getElem?_map, List.getElem?_eq_getElem hj']
  exact this
theorem TS_drewN {n₀ Bo Br : Nat} {xo xr : List UInt8} {W : World} (h : TS n₀ Bo Br xo xr W) (n : Nat) : TS n₀ Bo Br xo xr (W.drewN n) := h
theorem boxed_own' {B : Nat} {t : TypeId} {v : Value} : Own (fun (_ : List UInt8) W => Boxed W B t v) := by
  rintro s X Y row h hg hr
  refine h.kept hg (fun e => ?_)
  obtain ⟨o, ho, hc⟩ := hr _ e.symm
  rw [show X.heap[_]? = _ from h] at ho; cases ho; cases hc
attribute [local go_sem] Oper.semAt_some
set_option maxHeartbeats 4000000 in
set_option maxRecDepth 100000 in
theorem text_in (s0 s1 s2 s3 : Int) (hs0 : 0 ≤ s0 ∧ s0 < 18446744073709551616) (hs1 : 0 ≤ s1 ∧ s1 < 18446744073709551616) (hs2 : 0 ≤ s2 ∧ s2 < 18446744073709551616) (hs3 : 0 ≤ s3 ∧ s3 < 18446744073709551616) (hz : ¬ (s0 = 0 ∧ s1 = 0 ∧ s2 = 0 ∧ s3 = 0)) (hlen : (membL s0 s1 s2 s3).length ≤ 256) (w : World) (hD : DB w) :
    CallsIn Fence.wide 3 Tryd.prog 13 #[.agg #[.int .u64 s0, .int .u64 s1, .int .u64 s2, .int .u64 s3]] w fun e w' => e = .returned (.string (strOfNums ((textL (membL s0 s1 s2 s3)).map (fun b => (b.toNat : Int))))) ∧ Below w.heap.size w w' := by
  obtain ⟨i0, hi, hz0, hz1, hz2⟩ := info_parts info8
  have HR := Aside0.mk (And.intro hs0 (And.intro hs1 (And.intro hs2 hs3)))
  have HD := Aside0.mk hD
  have HL := Aside0.mk hlen
  have HZ := Aside0.mk hz
  have he0 : (s0 == 0 && (s1 == 0 && (s2 == 0 && (s3 == 0)))) = false := by
    rw [Bool.eq_false_iff]
    intro h
    simp only [Bool.and_eq_true, beq_iff_eq] at h
    exact hz h
  have heq : ∀ W : World, (Op.equalIn 10000 24 (.agg #[.int .u64 s0, .int .u64 s1, .int .u64 s2, .int .u64 s3]) (.agg #[.int .u64 0, .int .u64 0, .int .u64 0, .int .u64 0])).run Tryd.prog W = .ok false W := fun W => (eqA24 9998 W s0 0 s1 0 s2 0 s3 0).trans (by rw [he0])
  clear hs0 hs1 hs2 hs3 hD hlen hz he0
  refine callsIn_of_wp_marks Tryd.func13 rfl trivial ?_ rfl
  simp only [Tryd.ntmps13, List.size_toArray, List.length_cons, List.length_nil, Nat.reduceAdd, Nat.reduceSub, Array.replicate_succ, Array.replicate_zero, List.push_toArray, List.append_toArray, List.nil_append, List.cons_append]
  gi_wp2_with (refine ⟨trivial, ?_⟩; gi_at_call 27; refine (callsIn_wide.2 (bset_Members_calls s0 s1 s2 s3 _)).mono ?_; rintro e w' ⟨rfl, rfl⟩)
  obtain ⟨W1, hW1⟩ : ∃ W1, ((((((w.alloc (.cells #[.int .u64 s0, .int .u64 s1, .int .u64 s2, .int .u64 s3] 24 (0, 0))).alloc (.cells #[.int .u8 91] 5 (0, 0))).alloc (.cells #[.slice (some ⟨w.heap.size + 1, 0, none⟩) 1 1] 61 (0, 0))).alloc (.cells #[.slice none 0 0] 61 (0, 0))).alloc (.cells #[(.func (.func 26) #[] #[.pointer (some ⟨w.heap.size + 1 + 1 + 1, 0, none⟩), .pointer (some ⟨w.heap.size + 1 + 1, 0, none⟩)])] 1 (0, 0))).alloc (.cells #[.int .u64 s0, .int .u64 s1, .int .u64 s2, .int .u64 s3] 24 (0, 0))) = W1 := ⟨_, rfl⟩
  have hTS : Aside0 (TS w.heap.size (w.heap.size + 1 + 1) (w.heap.size + 1 + 1 + 1) [91] [] W1) := by
    rw [← hW1]
    have b1 := Boxed.new ((w.alloc (.cells #[.int .u64 s0, .int .u64 s1, .int .u64 s2, .int .u64 s3] 24 (0, 0))).alloc (.cells #[.int .u8 91] 5 (0, 0))) 61 (.slice (some ⟨w.heap.size + 1, 0, none⟩) 1 1)
    have b2 := Boxed.new (((w.alloc (.cells #[.int .u64 s0, .int .u64 s1, .int .u64 s2, .int .u64 s3] 24 (0, 0))).alloc (.cells #[.int .u8 91] 5 (0, 0))).alloc (.cells #[.slice (some ⟨w.heap.size + 1, 0, none⟩) 1 1] 61 (0, 0))) 61 (.slice none 0 0)
    have b3 := blk_new (w.alloc (.cells #[.int .u64 s0, .int .u64 s1, .int .u64 s2, .int .u64 s3] 24 (0, 0))) (.cells #[.int .u8 91] 5 (0, 0))
    simp only [World.size_alloc] at b1 b2 b3
    exact ⟨_, _, (((b1.alloc _).alloc _).alloc _), ((b2.alloc _).alloc _), ⟨rfl, .inr ⟨w.heap.size + 1, 1, _, rfl, by omega, blk_alloc (blk_alloc (blk_alloc (blk_alloc b3 _) _) _) _, Nat.le_refl _, by decide, rfl, rfl⟩⟩, World.ownsRow_nil _ _ _ _, fun _ => rfl, .inr (by simp [Value.ownBlock])⟩
  have hF : Aside0 (Boxed W1 (w.heap.size + 1 + 1 + 1 + 1) 1 (.func (.func 26) #[] #[.pointer (some ⟨w.heap.size + 1 + 1 + 1, 0, none⟩), .pointer (some ⟨w.heap.size + 1 + 1, 0, none⟩)])) := by
    rw [← hW1]
    have b1 := Boxed.new ((((w.alloc (.cells #[.int .u64 s0, .int .u64 s1, .int .u64 s2, .int .u64 s3] 24 (0, 0))).alloc (.cells #[.int .u8 91] 5 (0, 0))).alloc (.cells #[.slice (some ⟨w.heap.size + 1, 0, none⟩) 1 1] 61 (0, 0))).alloc (.cells #[.slice none 0 0] 61 (0, 0))) 1 (.func (.func 26) #[] #[.pointer (some ⟨w.heap.size + 1 + 1 + 1, 0, none⟩), .pointer (some ⟨w.heap.size + 1 + 1, 0, none⟩)])
    simp only [World.size_alloc] at b1
    exact ⟨b1.alloc _⟩
  have hM : Aside0 (W1.heap[w.heap.size + 1 + 1 + 1 + 1 + 1]? = some (.cells #[.int .u64 s0, .int .u64 s1, .int .u64 s2, .int .u64 s3] 24 (0, 0))) := by
    rw [← hW1]
    have b1 := blk_new (((((w.alloc (.cells #[.int .u64 s0, .int .u64 s1, .int .u64 s2, .int .u64 s3] 24 (0, 0))).alloc (.cells #[.int .u8 91] 5 (0, 0))).alloc (.cells #[.slice (some ⟨w.heap.size + 1, 0, none⟩) 1 1] 61 (0, 0))).alloc (.cells #[.slice none 0 0] 61 (0, 0))).alloc (.cells #[(.func (.func 26) #[] #[.pointer (some ⟨w.heap.size + 1 + 1 + 1, 0, none⟩), .pointer (some ⟨w.heap.size + 1 + 1, 0, none⟩)])] 1 (0, 0))) (.cells #[.int .u64 s0, .int .u64 s1, .int .u64 s2, .int .u64 s3] 24 (0, 0))
    simp only [World.size_alloc] at b1
    exact ⟨b1⟩
  have hB1 : Aside0 (Below w.heap.size w W1) := by rw [← hW1]; exact ⟨below_alloc (below_alloc (below_alloc (below_alloc (below_alloc (below_alloc (Below.refl _ _) _) _) _) _) _) _⟩
  have hsz : Aside0 (W1.heap.size = w.heap.size + 6) := by rw [← hW1]; exact ⟨by simp only [World.size_alloc]⟩
  have hD1 := Aside0.mk (HD.out.below HD.out.2 hB1.out)
  rw [hW1]
  clear hW1
  generalize hb5 : w.heap.size + 1 + 1 + 1 + 1 + 1 = Bm at hM ⊢
  generalize hb4 : w.heap.size + 1 + 1 + 1 + 1 = Bf at hF ⊢
  generalize hb3 : w.heap.size + 1 + 1 + 1 = Br at hTS hF ⊢
  generalize hb2 : w.heap.size + 1 + 1 = Bo at hTS hF ⊢
  have hNE : Aside0 (w.heap.size ≤ Bo ∧ w.heap.size ≤ Br ∧ w.heap.size ≤ Bf ∧ Bo ≠ Br ∧ Bf ≠ Bo ∧ Bf ≠ Br) := ⟨by omega⟩
  clear hb2 hb3 hb4 hb5
  refine wpIn_rangeFunc_ownF rfl (by omega) (gf := 47) (lb := #[.pointer (some ⟨Bm, 0, none⟩)]) rfl trivial (enters_of Tryd.func47 (by kernel_rfl) rfl)
    (members_stops 2 (by omega) Bm w.heap.size s0 s1 s2 s3 HR.out.1 HR.out.2.1 HR.out.2.2.1 HR.out.2.2.2 W1 hM.out hD1.out HD.out.2) belowK_t (belowK_b (by rw [hsz.out]; omega)) (Below.refl _ _) (fun _ => rfl)
    (fun pre W => (TS w.heap.size Bo Br (foldT pre).1 (foldT pre).2 W ∧ Boxed W Bf 1 (.func (.func 26) #[] #[.pointer (some ⟨Br, 0, none⟩), .pointer (some ⟨Bo, 0, none⟩)])) ∧ Below w.heap.size w W)
    (fun _ _ _ => False)
    (OwnFrom.and (Own.from (fun s X Y row hs hg hr => ⟨TS.own w.heap.size Bo Br (fun pre => (foldT pre).1) (fun pre => (foldT pre).2) s X Y row hs.1 hg hr, boxed_own' s X Y row hs.2 hg hr⟩) _) (ownFrom_below (Nat.le_refl _) (by rw [hsz.out]; omega)))
    (fun _ _ _ _ _ hs _ _ => hs)
    ⟨⟨hTS.out, hF.out⟩, hB1.out⟩
    (fun x => { tmps := #[.agg #[.int .u64 s0, .int .u64 s1, .int .u64 s2, .int .u64 s3], .pointer (some ⟨w.heap.size, 0, none⟩), .string ⟨#[]⟩, .pointer (some ⟨Bo, 0, none⟩), .pointer (some ⟨Br, 0, none⟩), .pointer (some ⟨Bf, 0, none⟩), .int .u8 (x.toNat : Int), .agg #[.int .u64 s0, .int .u64 s1, .int .u64 s2, .int .u64 s3], .agg #[.int .u64 0, .int .u64 0, .int .u64 0, .int .u64 0], .bool false, .slice (some ⟨w.heap.size + 1, 0, none⟩) 1 1, .func (.func 26) #[] #[.pointer (some ⟨Br, 0, none⟩), .pointer (some ⟨Bo, 0, none⟩)], .agg #[.int .u64 s0, .int .u64 s1, .int .u64 s2, .int .u64 s3], .func (.func 47) #[] #[.pointer (some ⟨Bm, 0, none⟩)], .int .u8 (x.toNat : Int), undef, undef, undef, undef, undef, undef, undef, undef, undef, undef, undef, undef, undef, undef, undef, undef, undef, undef, undef, undef, undef, undef, undef, undef, undef, undef, undef, undef, undef, undef, undef, undef, undef, undef], defers := [] }) ?assign ?body ?done ?stop
  case assign =>
    intro l x W K hK
    gi_wp2
    exact hK
  case body =>
    rintro l pre x W ⟨⟨hT, hFb⟩, hB⟩ hlt
    have hl := foldT_len pre
    have hL := HL.out
    have hst := foldT_snoc pre x
    obtain ⟨⟨xo, xr⟩, hx⟩ : ∃ st, foldT pre = st := ⟨_, rfl⟩
    rw [hx] at hT hl hst
    dsimp only at hT hl
    have hle : Aside0 (xo.length + xr.length ≤ 4096) := ⟨by omega⟩
    have hle3 : Aside0 (xo.length + (squeeze xr).length ≤ 4096) := ⟨by have := squeeze_len xr; omega⟩
    have hps : Aside0 (0 < xo.length) := ⟨hl.2⟩
    have hST := Aside0.mk hst
    replace hT := Aside0.mk hT
    replace hFb := Aside0.mk hFb
    replace hB := Aside0.mk hB
    have hS := special_eq x
    clear hl hL hst hx hlt
    by_cases hsp : isSpec x = true
    · rw [hsp] at hS
      have HSP := Aside0.mk hS
      clear hS
      gi_wp2_with (first | (refine ⟨trivial, ?_⟩; gi_at_call 28; refine (CallsIn.inRound l (callsIn_wide.2 (bracket_special.calls _ _ _ HSP.out))).mono ?_; rintro e w' ⟨rfl, nq, rfl⟩; obtain ⟨W2, hW2⟩ : ∃ W2, W.drewN nq = W2 := ⟨_, rfl⟩; rw [hW2]; have hK2 := Aside0.mk (show KeepsOthers W W2 from hW2 ▸ ⟨Nat.le_refl _, fun _ _ h _ => h⟩); have hB2 := Aside0.mk (show Below w.heap.size W W2 from hW2 ▸ pw_below_drewN (Below.refl _ _) nq); have hT2 := Aside0.mk (TS_drewN hT.out nq); rw [hW2] at hT2; have hF2 := Aside0.mk (show Boxed W2 Bf 1 (.func (.func 26) #[] #[.pointer (some ⟨Br, 0, none⟩), .pointer (some ⟨Bo, 0, none⟩)]) from hW2 ▸ hFb.out); have hn2 : w.heap.size ≤ W2.heap.size := (hB.out.trans hB2.out).size; clear hW2; have hfc := hF2.out.cell) | (refine ⟨trivial, ?_⟩; gi_at_call 26; refine (CallsIn.inRound l (callsIn_wide.2 (flush_calls w.heap.size Bo Br xo xr _ hn2 hNE.out.1 hNE.out.2.1 hNE.out.2.2.2.1 hT2.out hle.out hps.out))).mono ?_; rintro e W3 ⟨⟨v, rfl⟩, hT3, hk3, hb3, hq3⟩; obtain ⟨xo3, hx3⟩ : ∃ z, xo ++ squeeze xr = z := ⟨_, rfl⟩; rw [hx3] at hT3; have hl3 := congrArg List.length hx3; rw [List.length_append] at hl3; have hX3 := Aside0.mk hx3; have hL3 := Aside0.mk hl3; clear hx3 hl3; obtain ⟨vo, vr, hbo, hbr, hro, hrr, hnil, hd⟩ := hT3; obtain rfl := hnil rfl; have hK3 := Aside0.mk hk3; have hB3 := Aside0.mk hb3; have hF3 := Aside0.mk (hq3 _ _ _ hF2.out (by decide) hNE.out.2.2.2.2.1 hNE.out.2.2.2.2.2); have hn3 : w.heap.size ≤ W3.heap.size := Nat.le_trans hn2 hb3.size; clear hk3 hb3 hq3; have hco := hbo.cell; have hcr := hbr.cell; have hfo := hbo.frozen; have hfr := hbr.frozen) | (gi_at_builtin; refine wpListIn_append_own _ rfl _ _ 61 rfl w.heap.size 5 i0 (.int .u8 0) 1 1 Tryd.underlying61 hi hz0 hz1 hz2 rfl (by decide) _ _ _ rfl (hro.alloc _) ⟨W3.heap.size, 0, none⟩ 5 5 (enc8 [91, 46, x, 46, 93]) rfl rfl (cells_new W3 _ _ _ rfl) (enc8_one _) (by have := hle3.out; have := hL3.out; simp only [maxLen]; omega) (by have := hle3.out; have := hL3.out; omega) (by simp only [World.size_alloc]; omega) ?_; intro v' w1 hown' hgrow _; obtain ⟨h1, hT4, hk4, hb4, hq4⟩ := TS_out (ys := [91, 46, x, 46, 93]) hbo hbr hro hn3 hNE.out.1 hNE.out.2.2.2.1 hown' hgrow; obtain ⟨go, co, cuo, rfl, _⟩ := row_own hown' (by omega); have hc1 := h1.cell; have hf1 := h1.frozen))
      refine ⟨hK2.out.trans (hK3.out.trans hk4), hB2.out.trans (hB3.out.trans hb4), ⟨?_, hq4 _ _ _ hF3.out (by decide) hNE.out.2.2.2.2.1 hNE.out.2.2.2.2.2⟩, hB.out.trans (hB2.out.trans (hB3.out.trans hb4))⟩
      rw [hST.out]
      simp only [stepT, hsp, if_true]
      rw [hX3.out]
      exact hT4
    · have hsp' : isSpec x = false := Bool.eq_false_iff.2 hsp
      rw [hsp'] at hS
      have HSP := Aside0.mk hS
      clear hS hsp
      by_cases hxr : xr = []
      · subst hxr
        gi_wp2_with (first | (refine ⟨trivial, ?_⟩; gi_at_call 28; refine (CallsIn.inRound l (callsIn_wide.2 (bracket_special.calls _ _ _ HSP.out))).mono ?_; rintro e w' ⟨rfl, nq, rfl⟩; obtain ⟨W2, hW2⟩ : ∃ W2, W.drewN nq = W2 := ⟨_, rfl⟩; rw [hW2]; have hK2 := Aside0.mk (show KeepsOthers W W2 from hW2 ▸ ⟨Nat.le_refl _, fun _ _ h _ => h⟩); have hB2 := Aside0.mk (show Below w.heap.size W W2 from hW2 ▸ pw_below_drewN (Below.refl _ _) nq); have hT2 := Aside0.mk (TS_drewN hT.out nq); rw [hW2] at hT2; have hF2 := Aside0.mk (show Boxed W2 Bf 1 (.func (.func 26) #[] #[.pointer (some ⟨Br, 0, none⟩), .pointer (some ⟨Bo, 0, none⟩)]) from hW2 ▸ hFb.out); have hn2 : w.heap.size ≤ W2.heap.size := (hB.out.trans hB2.out).size; clear hW2; have hfc := hF2.out.cell; obtain ⟨vo, vr, hbo, hbr, hro, hrr, hnil, hd⟩ := hT2.out; obtain rfl := hnil rfl; have hcr := hbr.cell; have hfr := hbr.frozen) | (gi_at_builtin; refine wpListIn_append_own_at _ rfl _ _ 61 rfl w.heap.size 5 i0 (.int .u8 0) 1 1 Tryd.underlying61 hi hz0 hz1 hz2 rfl (by decide) _ _ _ rfl (hrr.alloc _) ⟨W2.heap.size, 0, none⟩ 1 1 [.int .u8 (x.toNat : Int)] rfl rfl (cell_one_new _ _ _) (by simp [Value.oneCell']) (by simp [maxLen]) (by simp) (by simp only [World.size_alloc]; omega) ?_; intro v' w1 hown' hgrow _ hat; obtain ⟨h1, hT4, hk4, hb4, hq4⟩ := TS_push (xr := []) (b := x) hbo hbr hro hrr hd hn2 hNE.out.2.1 hNE.out.2.2.2.1 hown' hgrow hat; obtain ⟨go, co, cuo, rfl, _⟩ := row_own hown' (by omega); have hc1 := h1.cell; have hf1 := h1.frozen))
        refine ⟨hK2.out.trans hk4, hB2.out.trans hb4, ⟨?_, hq4 _ _ _ hF2.out (by decide) hNE.out.2.2.2.2.1 hNE.out.2.2.2.2.2⟩, hB.out.trans (hB2.out.trans hb4)⟩
        rw [hST.out]
        simp only [stepT, hsp', Bool.false_eq_true, if_false]
        rw [if_neg (fun h => h.1 rfl)]
        exact hT4
      · have hxp : 0 < xr.length := List.length_pos_iff.2 hxr
        obtain ⟨xl, hxl⟩ : ∃ y, xr[xr.length - 1]? = some y := ⟨_, List.getElem?_eq_getElem (by omega)⟩
        have hlast : xr.getLastD 0 = xl := by rw [List.getLastD_eq_getLast?, List.getLast?_eq_getElem?, hxl]; rfl
        have hjw : wrap64 ((xr.length : Int) - 1) = (xr.length : Int) - 1 := by have := hle.out; exact wrap_id (by omega) (by omega)
        have hjp : (0 ≤ (xr.length : Int) - 1) = True := eq_true (by omega)
        have hjq : ((xr.length : Int) - 1 < (xr.length : Int)) = True := eq_true (by omega)
        have hj0 : decide ((0 : Int) < (xr.length : Int)) = true := decide_eq_true (by omega)
        obtain ⟨y, hy⟩ : ∃ y : Int, IntKind.u8.wrap ((xl.toNat : Int) + 1) = y := ⟨_, rfl⟩
        by_cases hyx : y = (x.toNat : Int)
        · have cy : (y != (x.toNat : Int)) = false := bne_eq_false_iff_eq.2 hyx
          have HYX := Aside0.mk hyx
          clear hyx
          gi_wp2_with (first | (refine ⟨trivial, ?_⟩; gi_at_call 28; refine (CallsIn.inRound l (callsIn_wide.2 (bracket_special.calls _ _ _ HSP.out))).mono ?_; rintro e w' ⟨rfl, nq, rfl⟩; obtain ⟨W2, hW2⟩ : ∃ W2, W.drewN nq = W2 := ⟨_, rfl⟩; rw [hW2]; have hK2 := Aside0.mk (show KeepsOthers W W2 from hW2 ▸ ⟨Nat.le_refl _, fun _ _ h _ => h⟩); have hB2 := Aside0.mk (show Below w.heap.size W W2 from hW2 ▸ pw_below_drewN (Below.refl _ _) nq); have hT2 := Aside0.mk (TS_drewN hT.out nq); rw [hW2] at hT2; have hF2 := Aside0.mk (show Boxed W2 Bf 1 (.func (.func 26) #[] #[.pointer (some ⟨Br, 0, none⟩), .pointer (some ⟨Bo, 0, none⟩)]) from hW2 ▸ hFb.out); have hn2 : w.heap.size ≤ W2.heap.size := (hB.out.trans hB2.out).size; clear hW2; have hfc := hF2.out.cell; obtain ⟨vo, vr, hbo, hbr, hro, hrr, hnil, hd⟩ := hT2.out; obtain ⟨gr, cr, cur, rfl, _⟩ := row_own hrr hxp; have hcr := hbr.cell; have hfr := hbr.frozen; have hcl := last_cell hrr hxp hxl) | (gi_at_builtin; refine wpListIn_append_own_at _ rfl _ _ 61 rfl w.heap.size 5 i0 (.int .u8 0) 1 1 Tryd.underlying61 hi hz0 hz1 hz2 rfl (by decide) _ _ _ rfl (hrr.alloc _) ⟨W2.heap.size, 0, none⟩ 1 1 [.int .u8 (x.toNat : Int)] rfl rfl (cell_one_new _ _ _) (by simp [Value.oneCell']) (by have := hle.out; simp only [maxLen]; omega) (by have := hle.out; omega) (by simp only [World.size_alloc]; omega) ?_; intro v' w1 hown' hgrow _ hat; obtain ⟨h1, hT4, hk4, hb4, hq4⟩ := TS_push (xr := xr) (b := x) hbo hbr hro hrr hd hn2 hNE.out.2.1 hNE.out.2.2.2.1 hown' hgrow hat; obtain ⟨go, co, cuo, rfl, _⟩ := row_own hown' (by omega); have hc1 := h1.cell; have hf1 := h1.frozen))
          refine ⟨hK2.out.trans hk4, hB2.out.trans hb4, ⟨?_, hq4 _ _ _ hF2.out (by decide) hNE.out.2.2.2.2.1 hNE.out.2.2.2.2.2⟩, hB.out.trans (hB2.out.trans hb4)⟩
          rw [hST.out]
          simp only [stepT, hsp', Bool.false_eq_true, if_false]
          rw [if_neg (fun h => h.2 (by rw [hlast, hy]; exact HYX.out))]
          exact hT4
        · have cy : (y != (x.toNat : Int)) = true := bne_iff_ne.2 hyx
          have HYX := Aside0.mk hyx
          clear hyx
          gi_wp2_with (first | (refine ⟨trivial, ?_⟩; gi_at_call 28; refine (CallsIn.inRound l (callsIn_wide.2 (bracket_special.calls _ _ _ HSP.out))).mono ?_; rintro e w' ⟨rfl, nq, rfl⟩; obtain ⟨W2, hW2⟩ : ∃ W2, W.drewN nq = W2 := ⟨_, rfl⟩; rw [hW2]; have hK2 := Aside0.mk (show KeepsOthers W W2 from hW2 ▸ ⟨Nat.le_refl _, fun _ _ h _ => h⟩); have hB2 := Aside0.mk (show Below w.heap.size W W2 from hW2 ▸ pw_below_drewN (Below.refl _ _) nq); have hT2 := Aside0.mk (TS_drewN hT.out nq); rw [hW2] at hT2; have hF2 := Aside0.mk (show Boxed W2 Bf 1 (.func (.func 26) #[] #[.pointer (some ⟨Br, 0, none⟩), .pointer (some ⟨Bo, 0, none⟩)]) from hW2 ▸ hFb.out); have hn2 : w.heap.size ≤ W2.heap.size := (hB.out.trans hB2.out).size; clear hW2; have hfc := hF2.out.cell; obtain ⟨vo, vr, hbo, hbr, hro, hrr, hnil, hd⟩ := hT2.out; obtain ⟨gr, cr, cur, rfl, _⟩ := row_own hrr hxp; have hcr := hbr.cell; have hfr := hbr.frozen; have hcl := last_cell hrr hxp hxl) | (refine ⟨trivial, ?_⟩; gi_at_call 26; refine (CallsIn.inRound l (callsIn_wide.2 (flush_calls w.heap.size Bo Br xo xr _ hn2 hNE.out.1 hNE.out.2.1 hNE.out.2.2.2.1 hT2.out hle.out hps.out))).mono ?_; rintro e W3 ⟨⟨v, rfl⟩, hT3, hk3, hb3, hq3⟩; obtain ⟨xo3, hx3⟩ : ∃ z, xo ++ squeeze xr = z := ⟨_, rfl⟩; rw [hx3] at hT3; have hl3 := congrArg List.length hx3; rw [List.length_append] at hl3; have hX3 := Aside0.mk hx3; have hL3 := Aside0.mk hl3; clear hx3 hl3; obtain ⟨vo, vr, hbo, hbr, hro, hrr, hnil, hd⟩ := hT3; obtain rfl := hnil rfl; have hK3 := Aside0.mk hk3; have hB3 := Aside0.mk hb3; have hF3 := Aside0.mk (hq3 _ _ _ hF2.out (by decide) hNE.out.2.2.2.2.1 hNE.out.2.2.2.2.2); have hn3 : w.heap.size ≤ W3.heap.size := Nat.le_trans hn2 hb3.size; clear hk3 hb3 hq3; have hco := hbo.cell; have hcr := hbr.cell; have hfo := hbo.frozen; have hfr := hbr.frozen) | (gi_at_builtin; refine wpListIn_append_own_at _ rfl _ _ 61 rfl w.heap.size 5 i0 (.int .u8 0) 1 1 Tryd.underlying61 hi hz0 hz1 hz2 rfl (by decide) _ _ _ rfl (hrr.alloc _) ⟨W3.heap.size, 0, none⟩ 1 1 [.int .u8 (x.toNat : Int)] rfl rfl (cell_one_new _ _ _) (by simp [Value.oneCell']) (by simp [maxLen]) (by simp) (by simp only [World.size_alloc]; omega) ?_; intro v' w1 hown' hgrow _ hat; obtain ⟨h1, hT4, hk4, hb4, hq4⟩ := TS_push (xr := []) (b := x) hbo hbr hro hrr hd hn3 hNE.out.2.1 hNE.out.2.2.2.1 hown' hgrow hat; obtain ⟨go, co, cuo, rfl, _⟩ := row_own hown' (by omega); have hc1 := h1.cell; have hf1 := h1.frozen))
          refine ⟨hK2.out.trans (hK3.out.trans hk4), hB2.out.trans (hB3.out.trans hb4), ⟨?_, hq4 _ _ _ hF3.out (by decide) hNE.out.2.2.2.2.1 hNE.out.2.2.2.2.2⟩, hB.out.trans (hB2.out.trans (hB3.out.trans hb4))⟩
          rw [hST.out]
          simp only [stepT, hsp', Bool.false_eq_true, if_false]
          rw [if_pos ⟨hxr, by rw [hlast, hy]; exact HYX.out⟩, hX3.out]
          exact hT4
  case done =>
    rintro D ys W hD rfl ⟨⟨hT, hFb⟩, hB⟩ hK
    have hl := foldT_len (membL s0 s1 s2 s3)
    have hL := HL.out
    obtain ⟨⟨xo, xr⟩, hx⟩ : ∃ st, foldT (membL s0 s1 s2 s3) = st := ⟨_, rfl⟩
    rw [hx] at hT hl
    dsimp only at hT hl
    have hle : Aside0 (xo.length + xr.length ≤ 4096) := ⟨by omega⟩
    have hle3 : Aside0 (xo.length + (squeeze xr).length ≤ 4096) := ⟨by have := squeeze_len xr; omega⟩
    have hps : Aside0 (0 < xo.length) := ⟨hl.2⟩
    have hn2 : w.heap.size ≤ W.heap.size := hB.size
    have hX := Aside0.mk hx
    have hfc := hFb.cell
    replace hT := Aside0.mk hT
    replace hB := Aside0.mk hB
    replace hK := Aside0.mk hK
    replace hD := Aside0.mk hD
    clear hl hL hx hFb
    gi_wp2_with (first | (refine ⟨trivial, ?_⟩; gi_at_call 26; refine (callsIn_wide.2 (flush_calls w.heap.size Bo Br xo xr _ hn2 hNE.out.1 hNE.out.2.1 hNE.out.2.2.2.1 hT.out hle.out hps.out)).mono ?_; rintro e W3 ⟨⟨v, rfl⟩, hT3, hk3, hb3, hq3⟩; obtain ⟨xo3, hx3⟩ : ∃ z, xo ++ squeeze xr = z := ⟨_, rfl⟩; rw [hx3] at hT3; have hl3 := congrArg List.length hx3; rw [List.length_append] at hl3; have hX3 := Aside0.mk hx3; have hL3 := Aside0.mk hl3; clear hx3 hl3; obtain ⟨vo, vr, hbo, hbr, hro, hrr, hnil, hd⟩ := hT3; have hK3 := Aside0.mk (hk3.same D _ hK.out rfl); have hB3 := Aside0.mk hb3; have hn3 : w.heap.size ≤ W3.heap.size := Nat.le_trans hn2 hb3.size; clear hk3 hb3 hq3; have hco := hbo.cell) | (gi_at_builtin; refine wpListIn_append_own _ rfl _ _ 61 rfl w.heap.size 5 i0 (.int .u8 0) 1 1 Tryd.underlying61 hi hz0 hz1 hz2 rfl (by decide) _ _ _ rfl (hro.alloc _) ⟨W3.heap.size, 0, none⟩ 1 1 [.int .u8 93] rfl rfl (cell_one_new _ _ _) (by simp [Value.oneCell']) (by have := hle3.out; have := hL3.out; simp only [maxLen]; omega) (by have := hle3.out; have := hL3.out; omega) (by simp only [World.size_alloc]; omega) ?_; intro v' w1 hown' hgrow _; have hK4 := Aside0.mk ((KeepsOthers.of_grownBy hgrow (row_cells (hro.alloc _))).same D _ ((KeepsOthers.alloc W3 _).same D _ hK3.out rfl) rfl); have hB4 := Aside0.mk (((Below.refl w.heap.size W3).alloc hn3 _).trans (below_of_grown (n₀ := w.heap.size) hgrow (Nat.le_trans hn3 (World.grownBy_alloc W3 _ none).size) (fun j ej => (hro.lt j ej).1))); obtain ⟨go, co, cuo, rfl, _⟩ := row_own hown' (by omega); have hown2 : w1.ownsRow w.heap.size 5 1 (.slice (some ⟨go, 0, none⟩) (xo3.length + 1) co) (xo3.length + 1) (enc8 (xo3 ++ [93])) := (by rw [enc8_append]; exact hown'); have hlen2 : (xo3 ++ [(93 : UInt8)]).length = xo3.length + 1 := (by simp); have hrd := reads_row hlen2 (by have := hle3.out; have := hL3.out; omega) hown2; have hcv := string_of_reads (P := Tryd.prog) (src := 61) (dst := 9) (e := 5) (c := co) (by kernel_rfl) (by kernel_rfl) (by kernel_rfl) hrd))
    have htx : textL (membL s0 s1 s2 s3) = xo3 ++ [93] := by
      unfold textL
      rw [hX.out]
      dsimp only
      rw [hX3.out]
    refine ⟨by simp, .inl ⟨_, _, rfl, run_takeDeferred hK4.out, ?_⟩⟩
    refine ⟨_, results_tmp rfl _ _ _, ?_, hB.out.trans (hB3.out.trans (hB4.out.trans (belowK_b (w := w) (Nat.le_refl _) w1 D _ _ (by have := hD.out; have := hsz.out; omega) hK4.out rfl rfl)))⟩
    rw [htx]
    simp
  case stop =>
    rintro D c pre W _ _ h _
    exact h.elim
def MD (w : World) : Prop := ML w ∧ DB w
theorem MD.below {w w' : World} (h : MD w) (hb : Below w.heap.size w w') : MD w' := ⟨h.1.below hb, h.2.below h.2.2 hb⟩
def u64ok (x : Int) : Prop := 0 ≤ x ∧ x < 18446744073709551616
instance (x : Int) : Decidable (u64ok x) := inferInstanceAs (Decidable (_ ∧ _))
def bracket_Text.f (a0_0 a0_1 a0_2 a0_3 : Int) : Option ByteArray :=
  if u64ok a0_0 ∧ u64ok a0_1 ∧ u64ok a0_2 ∧ u64ok a0_3 then
    (if a0_0 = 0 ∧ a0_1 = 0 ∧ a0_2 = 0 ∧ a0_3 = 0 then some ⟨#[91, 94, 0, 45, 255, 93]⟩
    else if (membL a0_0 a0_1 a0_2 a0_3).length ≤ 256 then some (strOfNums ((textL (membL a0_0 a0_1 a0_2 a0_3)).map (fun b => (b.toNat : Int)))) else none)
  else none
set_option maxHeartbeats 1000000 in
theorem text_zero (w : World) : Calls Tryd.prog 13 #[.agg #[.int .u64 0, .int .u64 0, .int .u64 0, .int .u64 0]] w fun e w' => e = .returned (.string ⟨#[91, 94, 0, 45, 255, 93]⟩) ∧ Below w.heap.size w w' := by
  have heq : ∀ W : World, (Op.equalIn 10000 24 (.agg #[.int .u64 0, .int .u64 0, .int .u64 0, .int .u64 0]) (.agg #[.int .u64 0, .int .u64 0, .int .u64 0, .int .u64 0])).run Tryd.prog W = .ok true W := fun W => (eqA24 9998 W 0 0 0 0 0 0 0 0).trans rfl
  go_enter Tryd.func13, Tryd.ntmps13
  go_wp2
  go_ret
  exact ⟨rfl, below_alloc (Below.refl _ _) _⟩
theorem bracket_Text.calls (a0_0 a0_1 a0_2 a0_3 : Int) (r : ByteArray) (w : World) (hDB : DB w) (h : bracket_Text.f a0_0 a0_1 a0_2 a0_3 = some r) :
    Calls Tryd.prog 13 #[.agg #[.int .u64 a0_0, .int .u64 a0_1, .int .u64 a0_2, .int .u64 a0_3]] w fun e w' => e = .returned (.string r) ∧ Below w.heap.size w w' := by
  unfold bracket_Text.f at h
  by_cases hu : u64ok a0_0 ∧ u64ok a0_1 ∧ u64ok a0_2 ∧ u64ok a0_3
  rotate_left
  · rw [if_neg hu] at h; cases h
  rw [if_pos hu] at h
  by_cases hz : a0_0 = 0 ∧ a0_1 = 0 ∧ a0_2 = 0 ∧ a0_3 = 0
  · rw [if_pos hz] at h
    cases h
    obtain ⟨rfl, rfl, rfl, rfl⟩ := hz
    exact text_zero w
  rw [if_neg hz] at h
  by_cases hl : (membL a0_0 a0_1 a0_2 a0_3).length ≤ 256
  · rw [if_pos hl] at h
    cases h
    exact (callsIn_wide (n := 3)).1 (text_in a0_0 a0_1 a0_2 a0_3 hu.1 hu.2.1 hu.2.2.1 hu.2.2.2 hz hl w hDB)
  · rw [if_neg hl] at h; cases h
end Go.Proofs.YtcmipoicnonaeaaDoor.F
end
section
namespace Go.Proofs.YtcmipoicnonaeaaDoor.F
open Go.RowKit Go.Proofs.YtcmipoicnonaeaaDoorW.PrintWords Go.Proofs.YtcmipoicnonaeaaDoorW.PrintLast Go.Proofs.YtcmipoicnonaeaaDoorW.PrintMore
set_option linter.unusedVariables false
set_option linter.unusedSimpArgs false
def runnelref02_With.f (a0_0 a0_1 a0_2 a0_3 a1 : Int) : Option (Int × Int × Int × Int) := if 0 ≤ a1 ∧ a1 < 256 then some (orBit a0_0 0 a1, orBit a0_1 1 a1, orBit a0_2 2 a1, orBit a0_3 3 a1) else none
set_option maxHeartbeats 2000000 in
set_option maxRecDepth 100000 in
theorem runnelref02_With.calls (a0_0 a0_1 a0_2 a0_3 a1 : Int) (r1 r2 r3 r4 : Int) (w : World) (h : runnelref02_With.f a0_0 a0_1 a0_2 a0_3 a1 = some (r1, r2, r3, r4)) :
    Calls Tryd.prog 32 #[.agg #[.int .u64 a0_0, .int .u64 a0_1, .int .u64 a0_2, .int .u64 a0_3], .int .i64 a1] w fun e w' => e = .returned (.agg #[.int .u64 r1, .int .u64 r2, .int .u64 r3, .int .u64 r4]) ∧ Below w.heap.size w w' := by
  unfold runnelref02_With.f at h
  by_cases hb : 0 ≤ a1 ∧ a1 < 256
  rotate_left
  · rw [if_neg hb] at h; cases h
  rw [if_pos hb] at h
  simp only [Option.some.injEq, Prod.mk.injEq] at h
  obtain ⟨rfl, rfl, rfl, rfl⟩ := h
  obtain ⟨h0, h1⟩ := hb
  have hm0 : 0 ≤ a1 % 64 := by omega
  have hm1 : a1 % 64 < 64 := by omega
  have hp := pow_wrap hm1
  obtain ⟨m, hm⟩ : ∃ m, a1 % 64 = m := ⟨_, rfl⟩
  rcases byte_word h0 h1 with hq | hq | hq | hq
  all_goals
    simp only [orBit, hq, hm]
    rw [hm] at hm0 hm1 hp
    go_enter Tryd.func32, Tryd.ntmps32
    go_wp2
    refine bodyPost_ret (v := .agg #[_, _, _, _]) (by simp [results, Tryd.results32, go_sem]; exact ⟨rfl, rfl, rfl, rfl⟩) rfl ?_
    exact ⟨rfl, below_alloc (below_alloc (Below.refl _ _) _) _⟩
end Go.Proofs.YtcmipoicnonaeaaDoor.F
end
section
namespace Go.Proofs.YtcmipoicnonaeaaDoor.F
open Go.RowKit Go.Proofs.YtcmipoicnonaeaaDoorW.PrintWords Go.Proofs.YtcmipoicnonaeaaDoorW.PrintLast Go.Proofs.YtcmipoicnonaeaaDoorW.PrintMore
attribute [local go_sem] max2_int min2_int max_two min_two max_three min_three max_four min_four
set_option linter.unusedVariables false
set_option linter.unusedSimpArgs false
def runnelref02_Of.l0 : Nat → ByteArray → Int → Int → Int → Int → Int → Option (Int × Int × Int × Int)
  | 0, _, _, _, _, _, _ => none
  | k + 1, x0, x4, x127000, x127001, x127002, x127003 => if x4 < (x0.size : Int) then (if 0 ≤ x4 then ((runnelref02_With.f x127000 x127001 x127002 x127003 (wrap64 (bt x0 x4))).bind fun bt127 => (runnelref02_Of.l0 k x0 (wrap64 (x4 + 1)) bt127.1 bt127.2.1 bt127.2.2.1 bt127.2.2.2)) else (none)) else (some (x127000, x127001, x127002, x127003))
def runnelref02_Of.f (k : Nat) (a0 : ByteArray) : Option (Int × Int × Int × Int) := runnelref02_Of.l0 k a0 0 0 0 0 0
theorem runnelref02_Of.mono_l : ∀ k, (∀ y0 y1 y2 y3 y4 y5, LeO (runnelref02_Of.l0 k y0 y1 y2 y3 y4 y5) (runnelref02_Of.l0 (k + 1) y0 y1 y2 y3 y4 y5))
  | 0 => fun _ _ _ _ _ _ r h => by simp [runnelref02_Of.l0] at h
  | k + 1 => by
    have ih0 := runnelref02_Of.mono_l k
    · intro y0 y1 y2 y3 y4 y5
      unfold runnelref02_Of.l0
      repeat' first
      | (with_reducible exact ih0 _ _ _ _ _ _)
      | (with_reducible exact LeO.refl _)
      | (with_reducible exact LeO.none _)
      | (with_reducible refine LeO.ite ?_ ?_)
      | (with_reducible refine LeO.bind ?_ (fun _ => ?_))
      | exact ih0 _ _ _ _ _ _
      | exact LeO.none _
      | refine LeO.ite ?_ ?_
      | refine LeO.bind ?_ (fun _ => ?_)
theorem runnelref02_Of.mono : ∀ a0 k, LeO (runnelref02_Of.f k a0) (runnelref02_Of.f (k + 1) a0) := by
  intro a0 k
  have ih0 := runnelref02_Of.mono_l k
  unfold runnelref02_Of.f
  repeat' first
      | (with_reducible exact ih0 _ _ _ _ _ _)
      | (with_reducible exact LeO.refl _)
      | (with_reducible exact LeO.none _)
      | (with_reducible refine LeO.ite ?_ ?_)
      | (with_reducible refine LeO.bind ?_ (fun _ => ?_))
      | exact ih0 _ _ _ _ _ _
      | exact LeO.none _
      | refine LeO.ite ?_ ?_
      | refine LeO.bind ?_ (fun _ => ?_)
set_option maxHeartbeats 8000000 in
set_option maxRecDepth 100000 in
theorem runnelref02_Of.calls (k : Nat) (a0 : ByteArray) (r1 : Int) (r2 : Int) (r3 : Int) (r4 : Int) (w : World) (h : runnelref02_Of.f k a0 = some (r1, r2, r3, r4)) :
    Calls Tryd.prog 17 #[.string a0] w fun e w' => e = .returned (.agg #[.int .u64 r1, .int .u64 r2, .int .u64 r3, .int .u64 r4]) ∧ Below w.heap.size w w' := by
  have hu24 := Tryd.underlying24
  have HB := Aside0.mk (Below.refl w.heap.size w)
  have H : (runnelref02_Of.l0 k a0 0 0 0 0 0) = some (r1, r2, r3, r4) := h
  clear h
  have H' := Aside0.mk H
  clear H
  go_enter Tryd.func17, Tryd.ntmps17
  go_wp2_with (first | ((with_reducible refine gate_dst (N := 2) rfl ?_); refine box_event ?hg (N := 2) ?hd (cs := #[.int .u64 0, .int .u64 0, .int .u64 0, .int .u64 0]) (t := 24) ?hr ?_; (case hd => rfl); (case hg => rfl); (case hr => first | (go_simp; done) | (go_simp; rfl)); intro gb125 hg w2 hbox hb; have n0_ := Aside0.mk (below_step (by repeat (first | (with_reducible first | exact HB.out | apply below_alloc | apply pw_below_drewN | apply below_drew1) | exact HB.out)) hb); have n1_ := Aside0.mk (hbox); have n2_ := Aside0.mk ((by rw [hg]; exact (below_size (by repeat (first | (with_reducible first | exact HB.out | apply below_alloc | apply pw_below_drewN | apply below_drew1) | exact HB.out))) : w.heap.size ≤ gb125)); have n3_ := Aside0.mk ((by rw [hg]; exact (below_size (by repeat (first | (with_reducible first | exact HB.out | apply below_alloc | apply pw_below_drewN | apply below_drew1) | exact HB.out))) : w.heap.size ≤ gb125)); clear HB; have HB := n0_; have BK125 := n1_; have GW125 := n2_; have GE125 := n3_; clear n0_ n1_ n2_ n3_; clear hb hbox hg) | ((with_reducible refine gate_dst (N := 3) rfl ?_); refine box_event ?hg (N := 3) ?hd (cs := #[.int .u64 0, .int .u64 0, .int .u64 0, .int .u64 0]) (t := 24) ?hr ?_; (case hd => rfl); (case hg => rfl); (case hr => first | (go_simp; done) | (go_simp; rfl)); intro gb126 hg w3 hbox hb; have n0_ := Aside0.mk (blk_below (g := gb125) (o := .cells #[.int .u64 0, .int .u64 0, .int .u64 0, .int .u64 0] 24 (0, 0)) (by (with_reducible repeat (first | refine blk_drewN ?_ _ | refine blk_drew ?_ | refine blk_alloc ?_ _)); exact BK125.out) hb); have n1_ := Aside0.mk (below_step (by repeat (first | (with_reducible first | exact HB.out | apply below_alloc | apply pw_below_drewN | apply below_drew1 | refine below_set ?_ GE125.out) | exact HB.out)) hb); have n2_ := Aside0.mk (hbox); have n3_ := Aside0.mk ((by rw [hg]; exact (below_size (by repeat (first | (with_reducible first | exact HB.out | apply below_alloc | apply pw_below_drewN | apply below_drew1 | refine below_set ?_ GE125.out) | exact HB.out))) : w.heap.size ≤ gb126)); have n4_ := Aside0.mk ((by rw [hg]; exact (below_size (by repeat (first | (with_reducible first | exact HB.out | apply below_alloc | apply pw_below_drewN | apply below_drew1 | refine below_set ?_ GE125.out) | exact HB.out))) : w.heap.size ≤ gb126)); have n5_ := Aside0.mk ((by rw [hg]; exact Nat.ne_of_lt (blk_lt (g := gb125) (o := .cells #[.int .u64 0, .int .u64 0, .int .u64 0, .int .u64 0] 24 (0, 0)) (by (with_reducible repeat (first | refine blk_drewN ?_ _ | refine blk_drew ?_ | refine blk_alloc ?_ _)); exact BK125.out)) : gb125 ≠ gb126)); have n6_ := Aside0.mk ((by rw [hg]; exact Nat.ne_of_gt (blk_lt (g := gb125) (o := .cells #[.int .u64 0, .int .u64 0, .int .u64 0, .int .u64 0] 24 (0, 0)) (by (with_reducible repeat (first | refine blk_drewN ?_ _ | refine blk_drew ?_ | refine blk_alloc ?_ _)); exact BK125.out)) : gb126 ≠ gb125)); clear BK125; clear HB; have BK125 := n0_; have HB := n1_; have BK126 := n2_; have GW126 := n3_; have GE126 := n4_; have NB125_126 := n5_; have NB126_125 := n6_; clear n0_ n1_ n2_ n3_ n4_ n5_ n6_; clear hb hbox hg))
  go_loopg [4] k (fun kq v4 w' => ∃ (x4_1 : Int) (x127000_1 : Int) (x127001_1 : Int) (x127002_1 : Int) (x127003_1 : Int), v4 = .int .i64 x4_1 ∧ Aside0 (runnelref02_Of.l0 kq a0 x4_1 x127000_1 x127001_1 x127002_1 x127003_1 = some (r1, r2, r3, r4)) ∧ Aside0 (kq ≤ k) ∧ Aside0 (w'.heap[gb125]? = some (.cells #[.int .u64 0, .int .u64 0, .int .u64 0, .int .u64 0] 24 (0, 0))) ∧ Aside0 (w'.heap[gb126]? = some (.cells #[.int .u64 x127000_1, .int .u64 x127001_1, .int .u64 x127002_1, .int .u64 x127003_1] 24 (0, 0))) ∧ Aside0 (Below w.heap.size w w'))
  case atStart => exact ⟨(0), (0), (0), (0), (0), (by first | rfl | (simp; done) | (simp [*]; done) | (exfalso; simp only [decide_eq_true_eq] at *; omega)), H', ⟨Nat.le_refl _⟩, ⟨by (with_reducible repeat (first | refine blk_drewN ?_ _ | refine blk_drew ?_ | refine blk_alloc ?_ _)); exact BK125.out⟩, ⟨by (with_reducible repeat (first | refine blk_drewN ?_ _ | refine blk_drew ?_ | refine blk_alloc ?_ _)); exact BK126.out⟩, ⟨by repeat (first | (with_reducible first | exact HB.out | apply below_alloc | apply pw_below_drewN | apply below_drew1 | refine below_set ?_ GE125.out | refine below_set ?_ GE126.out) | exact HB.out)⟩⟩
  case round =>
    clear H'
    try clear c1
    try clear p2
    obtain ⟨x4_1, x127000_1, x127001_1, x127002_1, x127003_1, rfl, HA, HK1, BK125, BK126, HB⟩ := hrel
    cases gk with
    | zero => exact absurd HA.out (by simp [runnelref02_Of.l0])
    | succ k1 =>
      have H := HA.out
      clear HA
      simp only [runnelref02_Of.l0] at H
      by_cases c4 : x4_1 < (a0.size : Int)
      · rw [if_pos c4] at H
        have c4b0 : decide (x4_1 < (a0.size : Int)) = true := decide_eq_true c4
        clear c4
        by_cases c5 : 0 ≤ x4_1
        · rw [if_pos c5] at H
          have c5b0 : decide (0 ≤ x4_1) = true := decide_eq_true c5
          clear c5
          replace H := Option.bind_eq_some_iff.mp H
          obtain ⟨⟨t127, t128, t129, t130⟩, A70, H⟩ := H
          replace H : (runnelref02_Of.l0 k1 a0 (wrap64 (x4_1 + 1)) t127 t128 t129 t130) = some (r1, r2, r3, r4) := H
          have A7 := Aside0.mk A70
          clear A70
          have H' := Aside0.mk H
          clear H
          try go_wp2
          have n0_ := Aside0.mk (blk_drew BK125.out)
          have n1_ := Aside0.mk (blk_drew BK126.out)
          have n2_ := Aside0.mk (below_drew1 HB.out)
          clear BK125
          clear BK126
          clear HB
          have BK125 := n0_
          have BK126 := n1_
          have HB := n2_
          clear n0_ n1_ n2_
          have p6 : 0 ≤ (x4_1 : Int) := of_decide_eq_true (by first | (with_reducible assumption) | assumption)
          have q6 : x4_1 < (a0.size : Int) := of_decide_eq_true (by first | (with_reducible assumption) | assumption)
          have hx6 := bt_at a0 x4_1
          replace p6 := eq_true p6
          replace q6 := eq_true q6
          refine start_ (n := 7) (S := fun w' => w'.cell? ⟨gb126, 0, none⟩ = some (.int .u64 x127000_1) ∧ w'.cell? ⟨gb126, 1, none⟩ = some (.int .u64 x127001_1) ∧ w'.cell? ⟨gb126, 2, none⟩ = some (.int .u64 x127002_1) ∧ w'.cell? ⟨gb126, 3, none⟩ = some (.int .u64 x127003_1)) (ds := [6]) #[false, false, false, false, false, false, false] (by kernel_rfl) rfl rfl ⟨(blk_cell BK126.out 0).trans rfl, (blk_cell BK126.out 1).trans rfl, (blk_cell BK126.out 2).trans rfl, (blk_cell BK126.out 3).trans rfl⟩ (fun hHeld => ?_)
          generalize wr.drew = w8 at BK125 BK126 HB hHeld ⊢
          refine pure_ (i := 1) (N := some 12) (v := ?_) (a' := ?_) #[false, true, false, false, false, false, false] rfl rfl (by kernel_rfl) (fun _ _ _ h => h) (Or.inl ⟨by rfl, ?_⟩) ?_ ?_
          rotate_left
          · intro w'
            go_simp
            with_reducible rfl
          rotate_left
          · simp only [Act.put, List.setIfInBounds_toArray, List.set_cons_zero, List.set_cons_succ, i64_w, i32_w]
            rfl
          refine pure_ (i := 2) (N := some 13) (v := ?_) (a' := ?_) #[false, true, true, false, false, false, false] rfl rfl (by kernel_rfl) (fun _ _ _ h => h) (Or.inl ⟨by rfl, ?_⟩) ?_ ?_
          rotate_left
          · intro w'
            go_simp
            with_reducible rfl
          rotate_left
          · simp only [Act.put, List.setIfInBounds_toArray, List.set_cons_zero, List.set_cons_succ, i64_w, i32_w]
            rfl
          refine take_ (i := 0) (N := some 11) (v := ?_) (a' := ?_) #[true, true, true, false, false, false, false] rfl rfl (by kernel_rfl) (fun _ _ _ h => h) (Or.inl ⟨by rfl, ?_⟩) hHeld ?_ ?_
          rotate_left
          · rintro w' ⟨s0, s1, s2, s3⟩
            go_simp
            with_reducible rfl
          rotate_left
          · simp only [Act.put, List.setIfInBounds_toArray, List.set_cons_zero, List.set_cons_succ, i64_w, i32_w]
            rfl
          refine take_ (i := 3) (N := some 14) (v := ?_) (a' := ?_) #[true, true, true, true, false, false, false] rfl rfl (by kernel_rfl) (fun _ _ _ h => h) (Or.inl ⟨by rfl, ?_⟩) hHeld ?_ ?_
          rotate_left
          · rintro w' ⟨s0, s1, s2, s3⟩
            go_simp
            with_reducible rfl
          rotate_left
          · simp only [Act.put, List.setIfInBounds_toArray, List.set_cons_zero, List.set_cons_succ, i64_w, i32_w]
            rfl
          refine pure_ (i := 4) (N := some 15) (v := ?_) (a' := ?_) #[true, true, true, true, true, false, false] rfl rfl (by kernel_rfl) (fun _ _ _ h => h) (Or.inl ⟨by rfl, ?_⟩) ?_ ?_
          rotate_left
          · intro w'
            go_simp
            with_reducible rfl
          rotate_left
          · simp only [Act.put, List.setIfInBounds_toArray, List.set_cons_zero, List.set_cons_succ, i64_w, i32_w]
            rfl
          refine one_ (i := 5) (N := some 16) #[true, true, true, true, true, true, false] rfl rfl (by kernel_rfl) (by decide) (fun K hK => ?_)
          refine goes_ Tryd.func32 (by kernel_rfl) rfl #[.agg #[.int .u64 x127000_1, .int .u64 x127001_1, .int .u64 x127002_1, .int .u64 x127003_1], .int .i64 (wrap64 (bt a0 x4_1))] (by rfl) rfl rfl (by (try simp only [List.map_toArray, List.map_cons, List.map_nil]); first | done | rfl | (simp only [List.length_drop, List.length_take]; rfl)) ?_
          with_reducible refine (runnelref02_With.calls x127000_1 x127001_1 x127002_1 x127003_1 (wrap64 (bt a0 x4_1)) t127 t128 t129 t130 _ A7.out).mono ?_
          rintro e w9 ⟨rfl, hb⟩
          refine ⟨_, rfl, ?_⟩
          have n0_ := Aside0.mk (blk_below (g := gb125) (o := .cells #[.int .u64 0, .int .u64 0, .int .u64 0, .int .u64 0] 24 (0, 0)) (by (with_reducible repeat (first | refine blk_drewN ?_ _ | refine blk_drew ?_ | refine blk_alloc ?_ _)); exact BK125.out) hb)
          have n1_ := Aside0.mk (blk_below (g := gb126) (o := .cells #[.int .u64 x127000_1, .int .u64 x127001_1, .int .u64 x127002_1, .int .u64 x127003_1] 24 (0, 0)) (by (with_reducible repeat (first | refine blk_drewN ?_ _ | refine blk_drew ?_ | refine blk_alloc ?_ _)); exact BK126.out) hb)
          have n2_ := Aside0.mk (below_step (by repeat (first | (with_reducible first | exact HB.out | apply below_alloc | apply pw_below_drewN | apply below_drew1 | refine below_set ?_ GE125.out | refine below_set ?_ GE126.out) | exact HB.out)) hb)
          clear BK125
          clear BK126
          clear HB
          have BK125 := n0_
          have BK126 := n1_
          have HB := n2_
          clear n0_ n1_ n2_
          (try clear hb)
          (try clear hb2)
          (try clear hk)
          (try clear hi)
          refine hK.out _ _ ⟨(blk_cell BK126.out 0).trans rfl, (blk_cell BK126.out 1).trans rfl, (blk_cell BK126.out 2).trans rfl, (blk_cell BK126.out 3).trans rfl⟩ (fun hHeld => ?_)
          clear hK K
          refine norm_ (a' := ?_) ?_ ?_
          rotate_left
          · show Act.put _ (some 16) _ = _
            simp only [Act.put, List.setIfInBounds_toArray, List.set_cons_zero, List.set_cons_succ, i64_w, i32_w]
            rfl
          refine last_ (i := 6) (N := none) #[true, true, true, true, true, true, true] rfl rfl (by kernel_rfl) (by decide) (fun K hK => ?_)
          have hs10 : w9.cell? ⟨gb126, 0, none⟩ = some (.int .u64 x127000_1) := (blk_cell BK126.out 0).trans rfl
          have hfs10 := blk_frozen BK126.out 0
          have hns10_0 := NB125_126.out
          have hms10_0 := NB126_125.out
          have hs11 : w9.cell? ⟨gb126, 1, none⟩ = some (.int .u64 x127001_1) := (blk_cell BK126.out 1).trans rfl
          have hfs11 := blk_frozen BK126.out 1
          have hns11_0 := NB125_126.out
          have hms11_0 := NB126_125.out
          have hs12 : w9.cell? ⟨gb126, 2, none⟩ = some (.int .u64 x127002_1) := (blk_cell BK126.out 2).trans rfl
          have hfs12 := blk_frozen BK126.out 2
          have hns12_0 := NB125_126.out
          have hms12_0 := NB126_125.out
          have hs13 : w9.cell? ⟨gb126, 3, none⟩ = some (.int .u64 x127003_1) := (blk_cell BK126.out 3).trans rfl
          have hfs13 := blk_frozen BK126.out 3
          have hns13_0 := NB125_126.out
          have hms13_0 := NB126_125.out
          refine skip_ (w1 := ?_) (by rfl) rfl ?_ ?_
          rotate_left
          · go_simp
            rfl
          refine hK.out _ _ ?_
          clear hK K
          refine done_ (by kernel_rfl) ?_
          try go_wp2
          go_roundg k1
          case measure => have := HK1.out; omega
          case rel => exact ⟨(wrap64 (x4_1 + 1)), (t127), (t128), (t129), (t130), (by first | rfl | (simp; done) | (simp [*]; done) | (exfalso; simp only [decide_eq_true_eq] at *; omega)), H', ⟨by have := HK1.out; omega⟩, ⟨by (with_reducible repeat (first | refine blk_drewN ?_ _ | refine blk_drew ?_ | refine blk_alloc ?_ _)); refine blk_far ?_ NB125_126.out _; (with_reducible repeat (first | refine blk_drewN ?_ _ | refine blk_drew ?_ | refine blk_alloc ?_ _)); refine blk_far ?_ NB125_126.out _; (with_reducible repeat (first | refine blk_drewN ?_ _ | refine blk_drew ?_ | refine blk_alloc ?_ _)); refine blk_far ?_ NB125_126.out _; (with_reducible repeat (first | refine blk_drewN ?_ _ | refine blk_drew ?_ | refine blk_alloc ?_ _)); refine blk_far ?_ NB125_126.out _; (with_reducible repeat (first | refine blk_drewN ?_ _ | refine blk_drew ?_ | refine blk_alloc ?_ _)); exact BK125.out⟩, ⟨by (with_reducible repeat (first | refine blk_drewN ?_ _ | refine blk_drew ?_ | refine blk_alloc ?_ _)); refine blk_put (cs := #[.int .u64 t127, .int .u64 t128, .int .u64 t129, .int .u64 x127003_1]) ?_ 3 _ rfl; (with_reducible repeat (first | refine blk_drewN ?_ _ | refine blk_drew ?_ | refine blk_alloc ?_ _)); refine blk_put (cs := #[.int .u64 t127, .int .u64 t128, .int .u64 x127002_1, .int .u64 x127003_1]) ?_ 2 _ rfl; (with_reducible repeat (first | refine blk_drewN ?_ _ | refine blk_drew ?_ | refine blk_alloc ?_ _)); refine blk_put (cs := #[.int .u64 t127, .int .u64 x127001_1, .int .u64 x127002_1, .int .u64 x127003_1]) ?_ 1 _ rfl; (with_reducible repeat (first | refine blk_drewN ?_ _ | refine blk_drew ?_ | refine blk_alloc ?_ _)); refine blk_put (cs := #[.int .u64 x127000_1, .int .u64 x127001_1, .int .u64 x127002_1, .int .u64 x127003_1]) ?_ 0 _ rfl; (with_reducible repeat (first | refine blk_drewN ?_ _ | refine blk_drew ?_ | refine blk_alloc ?_ _)); exact BK126.out⟩, ⟨by repeat (first | (with_reducible first | exact HB.out | apply below_alloc | apply pw_below_drewN | apply below_drew1 | refine below_set ?_ GE125.out | refine below_set ?_ GE126.out) | exact HB.out)⟩⟩
        · rw [if_neg c5] at H
          exact absurd H (by simp)
      · rw [if_neg c4] at H
        have c4b0 : decide (x4_1 < (a0.size : Int)) = false := decide_eq_false c4
        clear c4
        simp only [Option.some.injEq, Prod.mk.injEq] at H
        obtain ⟨rfl, rfl, rfl, rfl⟩ := H
        have hnb14 := NB126_125.out
        have hnc14 := NB125_126.out
        have hcz15_0 : wr.cell? ⟨gb126, 0, none⟩ = some (.int .u64 x127000_1) := (blk_cell BK126.out 0).trans rfl
        have hcz15_1 : wr.cell? ⟨gb126, 1, none⟩ = some (.int .u64 x127001_1) := (blk_cell BK126.out 1).trans rfl
        have hcz15_2 : wr.cell? ⟨gb126, 2, none⟩ = some (.int .u64 x127002_1) := (blk_cell BK126.out 2).trans rfl
        have hcz15_3 : wr.cell? ⟨gb126, 3, none⟩ = some (.int .u64 x127003_1) := (blk_cell BK126.out 3).trans rfl
        have hfz15_0 := blk_frozen BK126.out 0
        have hfz15_1 := blk_frozen BK126.out 1
        have hfz15_2 := blk_frozen BK126.out 2
        have hfz15_3 := blk_frozen BK126.out 3
        have hcz16_0 : wr.cell? ⟨gb125, 0, none⟩ = some (.int .u64 0) := (blk_cell BK125.out 0).trans rfl
        have hcz16_1 : wr.cell? ⟨gb125, 1, none⟩ = some (.int .u64 0) := (blk_cell BK125.out 1).trans rfl
        have hcz16_2 : wr.cell? ⟨gb125, 2, none⟩ = some (.int .u64 0) := (blk_cell BK125.out 2).trans rfl
        have hcz16_3 : wr.cell? ⟨gb125, 3, none⟩ = some (.int .u64 0) := (blk_cell BK125.out 3).trans rfl
        have hfz16_0 := blk_frozen BK125.out 0
        have hfz16_1 := blk_frozen BK125.out 1
        have hfz16_2 := blk_frozen BK125.out 2
        have hfz16_3 := blk_frozen BK125.out 3
        go_wp2
        refine bodyPost_ret (results_cell_row rfl _ _ gb125 24 #[.int .u64 x127000_1, .int .u64 x127001_1, .int .u64 x127002_1, .int .u64 x127003_1] (0, 0) _ rfl (by (with_reducible repeat (first | refine blk_drewN ?_ _ | refine blk_drew ?_ | refine blk_alloc ?_ _)); refine blk_put (cs := #[.int .u64 x127000_1, .int .u64 x127001_1, .int .u64 x127002_1, .int .u64 0]) ?_ 3 _ rfl; (with_reducible repeat (first | refine blk_drewN ?_ _ | refine blk_drew ?_ | refine blk_alloc ?_ _)); refine blk_put (cs := #[.int .u64 x127000_1, .int .u64 x127001_1, .int .u64 0, .int .u64 0]) ?_ 2 _ rfl; (with_reducible repeat (first | refine blk_drewN ?_ _ | refine blk_drew ?_ | refine blk_alloc ?_ _)); refine blk_put (cs := #[.int .u64 x127000_1, .int .u64 0, .int .u64 0, .int .u64 0]) ?_ 1 _ rfl; (with_reducible repeat (first | refine blk_drewN ?_ _ | refine blk_drew ?_ | refine blk_alloc ?_ _)); refine blk_put (cs := #[.int .u64 0, .int .u64 0, .int .u64 0, .int .u64 0]) ?_ 0 _ rfl; (with_reducible repeat (first | refine blk_drewN ?_ _ | refine blk_drew ?_ | refine blk_alloc ?_ _)); exact BK125.out) Tryd.underlying24 rfl (by kernel_rfl)) rfl ?_
        exact ⟨by first | rfl | (simp only [wrap_wrap]; done) | (simp only [wrap_wrap]; rfl) | (simp [errW_none, errW_some] <;> rfl) | (simp [*, errW_none, errW_some] <;> rfl), by repeat (first | (with_reducible first | exact HB.out | apply below_alloc | apply pw_below_drewN | apply below_drew1 | refine below_set ?_ GE125.out | refine below_set ?_ GE126.out) | exact HB.out)⟩
end Go.Proofs.YtcmipoicnonaeaaDoor.F
end
