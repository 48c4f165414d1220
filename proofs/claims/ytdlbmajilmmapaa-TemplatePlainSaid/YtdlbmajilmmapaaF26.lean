/- template.Build, at all parts, subjects and spans: it answers what buildT tells. No condition. -/
import Derived.Test.YtdlbmajilmmapaaBuilder
import Derived.Test.YtdlbmajilmmapaaF61
namespace Go.Proofs.Ytdlbmajilmmapaa.F
open Go.RowKit Go.Proofs.YtdlbmajilmmapaaW.PrintWords Go.Proofs.YtdlbmajilmmapaaW.PrintLast Go.Proofs.YtdlbmajilmmapaaW.PrintMore
set_option linter.unusedVariables false
set_option linter.unusedSimpArgs false

def buildT (subject : ByteArray) (spans : List S55) : List S117 → List UInt8 → Option (ByteArray × Int)
  | [], acc => some (⟨acc.toArray⟩, 0)
  | p :: l, acc =>
    if p.f0 < -1 then some (⟨#[]⟩, 1)
    else (if p.f0 ≥ 0 then template_piece.f subject spans p.f0 else some p.f1).bind fun s =>
      if 1024 < acc.length + s.size then some (⟨#[]⟩, 15) else buildT subject spans l (acc ++ s.data.toList)
/-- The sizes of texts that a memory can hold. -/
def fitT (l0 : List S117) (a1 : ByteArray) : Bool := l0.all (fun p => decide (p.f1.size ≤ 1152921504606846976)) && decide (a1.size ≤ 1152921504606846976)
def template_Build.f (l0 : List S117) (a1 : ByteArray) (l2 : List S55) : Option (ByteArray × Int) := if fitT l0 a1 = true then buildT a1 l2 l0 [] else none
theorem piece_size {a : ByteArray} {l : List S55} {x : Int} {r : ByteArray} (h : template_piece.f a l x = some r) : r.size ≤ a.size := by
  unfold template_piece.f at h
  have e0 : (⟨#[]⟩ : ByteArray).size = 0 := rfl
  (repeat' split at h) <;> simp only [Option.some.injEq, reduceCtorEq] at h <;> (subst h; first | (rw [e0]; exact Nat.zero_le _) | (rw [ByteArray.size_extract]; omega))

theorem drop_part (l : List S117) (i : Int) (h0 : 0 ≤ i) (h1 : i < l.length) : l.drop i.toNat = rd_T117 l i :: l.drop (i + 1).toNat := by
  have hi : i.toNat < l.length := by omega
  rw [List.drop_eq_getElem_cons hi, show (i + 1).toNat = i.toNat + 1 from by omega]
  congr 1
  unfold rd_T117
  rw [List.getD_eq_getElem?_getD, List.getElem?_eq_getElem hi]
  rfl

theorem byteCells_more (acc : List UInt8) (s : ByteArray) : Lib.byteCells acc ++ Lib.strCells s = Lib.byteCells (acc ++ s.data.toList) := by
  simp [Lib.byteCells, Lib.strCells]

set_option maxHeartbeats 8000000 in
set_option maxRecDepth 100000 in
theorem template_Build.calls (A0 : Option Addr) (c0 : Nat) (l0 : List (S117)) (a1 : ByteArray) (A2 : Option Addr) (c2 : Nat) (l2 : List (S55)) (r1 : ByteArray) (r2 : Int) (w : World) (hr0 : Kd.C k117 w A0 l0.length l0) (hc0 : l0.length ≤ c0) (hr2 : Kd.C k55 w A2 l2.length l2) (hc2 : l2.length ≤ c2) (h : template_Build.f l0 a1 l2 = some (r1, r2)) :
    Calls Try.prog 26 #[.slice A0 l0.length c0, .string a1, .slice A2 l2.length c2] w fun e w' => e = .returned (.tuple #[.string r1, .int .i64 r2]) ∧ Below w.heap.size w w' := by
  have HR0 := Aside0.mk hr0
  have HR2 := Aside0.mk hr2
  have HC2 := Aside0.mk hc2
  have hm0 : l0.length ≤ 9223372036854775807 := Kd.C_max hr0
  unfold template_Build.f at h
  by_cases hfit : fitT l0 a1 = true
  rotate_left
  · rw [if_neg hfit] at h; cases h
  rw [if_pos hfit] at h
  unfold fitT at hfit
  rw [Bool.and_eq_true, List.all_eq_true] at hfit
  obtain ⟨hz0, hz1⟩ := hfit
  replace hz1 := of_decide_eq_true hz1
  have HZ := Aside0.mk (show ∀ p ∈ l0, p.f1.size ≤ 1152921504606846976 from fun p hp => of_decide_eq_true (hz0 p hp))
  have H := Aside0.mk (show buildT a1 l2 l0 [] = some (r1, r2) from h)
  have hN : ∀ W : World, Below w.heap.size w W → Kd.C k117 W A0 l0.length l0 := fun W hW => Kd.C_below hr0 hW
  have HN := Aside0.mk hN
  clear h hr0 hr2 hc0 hc2 hN hz0
  go_enter Try.func26, Try.ntmps26
  go_wp2
  go_loopg [14] l0.length (fun g v14 wr => ∃ (i : Int) (acc : List UInt8), v14 = .int .i64 i ∧ 0 ≤ i ∧ i + g = l0.length ∧ acc.length ≤ 1024 ∧ Aside0 (buildT a1 l2 (l0.drop i.toNat) acc = some (r1, r2)) ∧ Aside0 (Lib.IsBuilder 121 5 w.heap.size w.heap.size (Lib.byteCells acc) wr) ∧ Aside0 (Below w.heap.size w wr))
  case atStart => exact ⟨0, [], rfl, by omega, by omega, by simp, H, ⟨Lib.fresh_isBuilder 121 5 w⟩, ⟨(Below.refl _ _).alloc (Nat.le_refl _) _⟩⟩
  case round =>
    clear H
    obtain ⟨i, acc, rfl, h0, hg, ha, HE, HBld, HB⟩ := hrel
    cases gk with
    | zero =>
      have c1 : decide (i < (l0.length : Int)) = false := decide_eq_false (by omega)
      have hE := HE.out
      rw [List.drop_eq_nil_of_le (by omega), buildT] at hE
      simp only [Option.some.injEq, Prod.mk.injEq] at hE
      obtain ⟨rfl, rfl⟩ := hE
      clear HE hg
      go_wp2_with (go_at_call 64; refine (Try.Builder_String_any w.heap.size w.heap.size acc _ HBld.out HB.out.size).mono ?_; rintro e w' ⟨rfl, hb⟩)
      go_ret2
      exact ⟨rfl, HB.out.trans hb⟩
    | succ g =>
      have hlt : i < (l0.length : Int) := by omega
      have c1 : decide (i < (l0.length : Int)) = true := decide_eq_true hlt
      have hdrop := drop_part l0 i h0 hlt
      have hE := HE.out
      rw [hdrop, buildT] at hE
      obtain ⟨ad, rfl, hx0, hx1⟩ := at_T117 (HN.out _ HB.out) i h0 hlt
      obtain ⟨p, hp⟩ : ∃ p, rd_T117 l0 i = p := ⟨_, rfl⟩
      have hpz : p.f1.size ≤ 1152921504606846976 := by
        refine HZ.out p ?_
        rw [← hp]
        unfold rd_T117
        rw [List.getD_eq_getElem?_getD, List.getElem?_eq_getElem (by omega)]
        exact List.getElem_mem _
      rw [hp] at hx0 hx1 hE
      clear hp hdrop HE
      have HBF := Aside0.mk (show ∀ W, Below wr.heap.size wr W → Lib.IsBuilder 121 5 w.heap.size w.heap.size (Lib.byteCells acc) W from fun W hW => isBuilder_below HBld.out hW)
      have HRF := Aside0.mk (show ∀ W, Below wr.heap.size wr W → Kd.C k55 W A2 l2.length l2 from fun W hW => Kd.C_below HR2.out (below_step HB.out hW))
      have hlc : (Lib.byteCells acc).length = acc.length := by simp [Lib.byteCells]
      have HLC := Aside0.mk hlc
      have HI := Aside0.mk (And.intro h0 (And.intro hlt (And.intro hg (And.intro ha hm0))))
      have hin : IntKind.i64.wrap (i + 1) = i + 1 := by rw [i64_w]; exact wrap_id (by omega) (by omega)
      have p1 : (0 ≤ i) = True := eq_true h0
      have q1 : (i < (l0.length : Int)) = True := eq_true hlt
      clear h0 hg ha hm0 hlc hlt HBld
      by_cases c3 : p.f0 < -1
      · rw [if_pos c3] at hE
        simp only [Option.some.injEq, Prod.mk.injEq] at hE
        obtain ⟨rfl, rfl⟩ := hE
        have c3b : decide (p.f0 < -1) = true := decide_eq_true c3
        clear c3
        go_wp2
        go_ret2
        exact ⟨rfl, below_step HB.out (below_alloc (Below.refl _ _) _)⟩
      · rw [if_neg c3] at hE
        have c3b : decide (p.f0 < -1) = false := decide_eq_false c3
        obtain ⟨s, hs, hE⟩ := Option.bind_eq_some_iff.1 hE
        have hE2 := Aside0.mk hE
        obtain ⟨m, hm⟩ : ∃ m : Int, ((acc.length + s.size : Nat) : Int) = m := ⟨_, rfl⟩
        clear hE c3
        by_cases c4 : p.f0 ≥ 0
        · rw [if_pos c4] at hs
          have c4b : decide (0 ≤ p.f0) = true := decide_eq_true c4
          have hss : s.size ≤ a1.size := piece_size hs
          have hmw : IntKind.i64.wrap (((Lib.byteCells acc).length : Int) + (s.size : Int)) = m := by
            rw [HLC.out, i64_w, wrap_id (by have := HI.out.2.2.2.1; omega) (by have := HI.out.2.2.2.1; omega), ← hm]
            omega
          have HS := Aside0.mk hs
          clear hs c4 hss
          by_cases c5 : 1024 < acc.length + s.size
          · have c5b : decide (1024 < m) = true := decide_eq_true (by omega)
            have hE := hE2.out
            rw [if_pos c5] at hE
            simp only [Option.some.injEq, Prod.mk.injEq] at hE
            obtain ⟨rfl, rfl⟩ := hE
            clear c5 hE2 hm
            go_wp2_with (first | (go_at_call 61; refine (template_piece.calls a1 A2 c2 l2 p.f0 s _ (HRF.out _ (below_alloc (Below.refl _ _) _)) HC2.out HS.out).mono ?_; rintro e w1 ⟨rfl, hb1⟩; have HB1 := Aside0.mk (below_step (below_alloc (Below.refl wr.heap.size wr) _) hb1); clear hb1) | (go_at_call 62; refine (Try.Builder_Len w.heap.size w.heap.size (Lib.byteCells acc) _ (HBF.out _ HB1.out)).mono ?_; rintro e w2 ⟨rfl, rfl⟩))
            go_ret2
            exact ⟨rfl, below_step HB.out HB1.out⟩
          · have c5b : decide (1024 < m) = false := decide_eq_false (by omega)
            have hE := hE2.out
            rw [if_neg c5] at hE
            have hE3 := Aside0.mk hE
            have c5' : acc.length + s.size ≤ 1024 := Nat.le_of_not_lt c5
            clear c5 hE2 hm hE
            go_wp2_with (first | (go_at_call 61; refine (template_piece.calls a1 A2 c2 l2 p.f0 s _ (HRF.out _ (below_alloc (Below.refl _ _) _)) HC2.out HS.out).mono ?_; rintro e w1 ⟨rfl, hb1⟩; have HB1 := Aside0.mk (below_step (below_alloc (Below.refl wr.heap.size wr) _) hb1); clear hb1) | (go_at_call 62; refine (Try.Builder_Len w.heap.size w.heap.size (Lib.byteCells acc) _ (HBF.out _ HB1.out)).mono ?_; rintro e w2 ⟨rfl, rfl⟩) | (go_at_call 63; refine (WriteString_any w.heap.size w.heap.size (Lib.byteCells acc) s _ (HBF.out _ HB1.out) (by rw [HLC.out]; omega) (below_step HB.out HB1.out).size).mono ?_; rintro e w3 ⟨rfl, hB3, hb3⟩))
            go_roundg g
            case rel =>
              refine ⟨i + 1, acc ++ s.data.toList, rfl, ?_, ?_, ?_, hE3, ⟨.inr (by rw [← byteCells_more]; exact hB3)⟩, ⟨(below_step HB.out HB1.out).trans hb3⟩⟩
              · have := HI.out.1; omega
              · have := HI.out.2.2.1; omega
              · rw [List.length_append, ← size_list]; exact c5'
            case measure => omega
        · rw [if_neg c4] at hs
          have c4b : decide (0 ≤ p.f0) = false := decide_eq_false c4
          obtain rfl := Option.some.inj hs
          obtain ⟨s, hs⟩ : ∃ s, p.f1 = s := ⟨_, rfl⟩
          rw [hs] at hx1 hpz hm hE2
          have hmw : IntKind.i64.wrap (((Lib.byteCells acc).length : Int) + (s.size : Int)) = m := by
            rw [HLC.out, i64_w, wrap_id (by have := HI.out.2.2.2.1; omega) (by have := HI.out.2.2.2.1; omega), ← hm]
            omega
          clear hs c4
          by_cases c5 : 1024 < acc.length + s.size
          · have c5b : decide (1024 < m) = true := decide_eq_true (by omega)
            have hE := hE2.out
            rw [if_pos c5] at hE
            simp only [Option.some.injEq, Prod.mk.injEq] at hE
            obtain ⟨rfl, rfl⟩ := hE
            clear c5 hE2 hm
            go_wp2_with (first | (go_at_call 62; refine (Try.Builder_Len w.heap.size w.heap.size (Lib.byteCells acc) _ (HBF.out _ (below_alloc (Below.refl _ _) _))).mono ?_; rintro e w2 ⟨rfl, rfl⟩))
            go_ret2
            exact ⟨rfl, below_step HB.out (below_alloc (Below.refl _ _) _)⟩
          · have c5b : decide (1024 < m) = false := decide_eq_false (by omega)
            have hE := hE2.out
            rw [if_neg c5] at hE
            have hE3 := Aside0.mk hE
            have c5' : acc.length + s.size ≤ 1024 := Nat.le_of_not_lt c5
            clear c5 hE2 hm hE
            go_wp2_with (first | (go_at_call 62; refine (Try.Builder_Len w.heap.size w.heap.size (Lib.byteCells acc) _ (HBF.out _ (below_alloc (Below.refl _ _) _))).mono ?_; rintro e w2 ⟨rfl, rfl⟩) | (go_at_call 63; refine (WriteString_any w.heap.size w.heap.size (Lib.byteCells acc) s _ (HBF.out _ (below_alloc (Below.refl _ _) _)) (by rw [HLC.out]; omega) (below_step HB.out (below_alloc (Below.refl _ _) _)).size).mono ?_; rintro e w3 ⟨rfl, hB3, hb3⟩))
            go_roundg g
            case rel =>
              refine ⟨i + 1, acc ++ s.data.toList, rfl, ?_, ?_, ?_, hE3, ⟨.inr (by rw [← byteCells_more]; exact hB3)⟩, ⟨(below_step HB.out (below_alloc (Below.refl _ _) _)).trans hb3⟩⟩
              · have := HI.out.1; omega
              · have := HI.out.2.2.1; omega
              · rw [List.length_append, ← size_list]; exact c5'
            case measure => omega

end Go.Proofs.Ytdlbmajilmmapaa.F
