/- Layer 13 (template): the reference's DocBuild answers what Build answers. -/
import Derived.Test.YtdlbmajilmmapaaF27
import Derived.Test.YtdlbmajilmmapaaF26
import Derived.SizedLaws
namespace Go.Proofs.Ytdlbmajilmmapaa.Pure
open Go.RowKit Go.Proofs.Ytdlbmajilmmapaa.F Go.Proofs.YtdlbmajilmmapaaW.PrintWords Go.Proofs.YtdlbmajilmmapaaW.PrintLast

theorem fit_of {l0 : List S117} {a1 : ByteArray} (h0 : ∀ p ∈ l0, p.f1.size ≤ reachBytes) (h1 : a1.size ≤ reachBytes) : fitT l0 a1 = true := by
  unfold fitT
  rw [Bool.and_eq_true, List.all_eq_true]
  have := reachBytes_lt
  exact ⟨fun p hp => decide_eq_true (by have := h0 p hp; omega), decide_eq_true (by omega)⟩

theorem piece_some (a : ByteArray) (l : List S55) (x : Int) (hx : 0 ≤ x) : ∃ r, template_piece.f a l x = some r := by
  unfold template_piece.f
  by_cases h1 : x ≥ (l.length : Int)
  · exact ⟨_, if_pos h1⟩
  rw [if_neg h1, if_pos hx, if_pos (by omega)]
  by_cases h2 : (rd_T55 l x).f0 < 0
  · exact ⟨_, if_pos h2⟩
  rw [if_neg h2]
  by_cases h3 : (rd_T55 l x).f0 > (rd_T55 l x).f1
  · exact ⟨_, if_pos h3⟩
  rw [if_neg h3]
  by_cases h4 : (rd_T55 l x).f1 > (a.size : Int)
  · exact ⟨_, if_pos h4⟩
  rw [if_neg h4, if_pos (by omega), if_pos (by omega), if_pos (by omega)]
  exact ⟨_, rfl⟩
theorem buildT_some (a : ByteArray) (l2 : List S55) : ∀ (l : List S117) (acc : List UInt8), ∃ r, buildT a l2 l acc = some r
  | [], acc => ⟨_, rfl⟩
  | p :: l, acc => by
    rw [buildT]
    by_cases h : p.f0 < -1
    · rw [if_pos h]; exact ⟨_, rfl⟩
    rw [if_neg h]
    have h2 : ∃ s, (if p.f0 ≥ 0 then template_piece.f a l2 p.f0 else some p.f1) = some s := by
      by_cases h0 : p.f0 ≥ 0
      · rw [if_pos h0]; exact piece_some a l2 _ h0
      · rw [if_neg h0]; exact ⟨_, rfl⟩
    obtain ⟨s, hs⟩ := h2
    rw [hs, Option.bind_some]
    by_cases h3 : 1024 < acc.length + s.size
    · rw [if_pos h3]; exact ⟨_, rfl⟩
    · rw [if_neg h3]; exact buildT_some a l2 l _

/-- The end of a round: a piece more, or the space is full. -/
theorem doc_add (a1 : ByteArray) (l2 : List S55) (l0 : List S117) (n i : Nat) (acc : List UInt8) (s : ByteArray) (r : ByteArray × Int) (ha : acc.length ≤ 1024) (hs : s.size ≤ reachBytes) (hi : i ≤ 9007199254740992)
    (ih : ∀ acc', acc'.length ≤ 1024 → buildT a1 l2 (l0.drop (i + 1)) acc' = some r → runnelref13_DocBuild.l0 n l0 a1 l2 (bts acc') ((i + 1 : Nat) : Int) = some r)
    (h : (if 1024 < acc.length + s.size then some (⟨#[]⟩, 15) else buildT a1 l2 (l0.drop (i + 1)) (acc ++ s.data.toList)) = some r) :
    (if wrap64 (((bts acc).length : Int) + (s.size : Int)) > 1024 then some ((⟨#[]⟩ : ByteArray), (15 : Int)) else if (bts acc).length + s.size < 140737488355328 then runnelref13_DocBuild.l0 n l0 a1 l2 (bts acc ++ bytesOf s) (wrap64 ((i : Int) + 1)) else none) = some r := by
  have hr := reachBytes_lt
  rw [bts_length, wrap_id (by omega) (by omega)]
  by_cases h1 : 1024 < acc.length + s.size
  · rw [if_pos h1] at h
    rw [if_pos (by omega)]
    exact h
  · rw [if_neg h1] at h
    rw [if_neg (by omega), if_pos (by omega), F.wrap_one hi, show bts acc ++ bytesOf s = bts (acc ++ s.data.toList) from by rw [bts_append]; rfl]
    exact ih _ (by rw [List.length_append, ← size_list]; omega) h

theorem doc_build (a1 : ByteArray) (l2 : List S55) (l0 : List S117) (h1 : a1.size ≤ reachBytes) (h0 : ∀ p ∈ l0, p.f1.size ≤ reachBytes) (hlen : l0.length ≤ 9007199254740992) : ∀ (n i : Nat) (acc : List UInt8) (r : ByteArray × Int), i + n = l0.length → acc.length ≤ 1024 →
    buildT a1 l2 (l0.drop i) acc = some r → runnelref13_DocBuild.l0 (2 * n + 1) l0 a1 l2 (bts acc) (i : Int) = some r := by
  intro n
  induction n with
  | zero =>
    intro i acc r hi ha h
    rw [List.drop_eq_nil_of_le (by omega), buildT] at h
    rw [runnelref13_DocBuild.l0, if_neg (by omega), strOf_bts]
    exact h
  | succ n ih =>
    intro i acc r hi ha h
    have hdrop := drop_part l0 (i : Int) (by omega) (by omega)
    rw [show ((i : Int) + 1).toNat = i + 1 from by omega, show (i : Int).toNat = i from rfl] at hdrop
    rw [hdrop, buildT] at h
    obtain ⟨p, hp⟩ : ∃ p, rd_T117 l0 (i : Int) = p := ⟨_, rfl⟩
    have hpz : p.f1.size ≤ reachBytes := by
      refine h0 p ?_
      rw [← hp]
      unfold rd_T117
      rw [show (i : Int).toNat = i from rfl, List.getD_eq_getElem?_getD, List.getElem?_eq_getElem (by omega)]
      exact List.getElem_mem _
    rw [show 2 * (n + 1) + 1 = (2 * n + 1 + 1) + 1 from by omega, runnelref13_DocBuild.l0, if_pos (by omega), if_pos (by omega), hp]
    rw [hp] at h
    have hi9 : i ≤ 9007199254740992 := by omega
    have ih1 : ∀ acc', acc'.length ≤ 1024 → buildT a1 l2 (l0.drop (i + 1)) acc' = some r → runnelref13_DocBuild.l0 (2 * n + 1) l0 a1 l2 (bts acc') ((i + 1 : Nat) : Int) = some r := fun acc' ha' h' => ih (i + 1) acc' r (by omega) ha' h'
    have ih2 : ∀ acc', acc'.length ≤ 1024 → buildT a1 l2 (l0.drop (i + 1)) acc' = some r → runnelref13_DocBuild.l0 (2 * n + 1 + 1) l0 a1 l2 (bts acc') ((i + 1 : Nat) : Int) = some r := fun acc' ha' h' => (runnelref13_DocBuild.mono_l (2 * n + 1)).1 _ _ _ _ _ _ (ih1 acc' ha' h')
    clear ih hdrop hp hi
    by_cases c1 : p.f0 < -1
    · rw [if_pos c1] at h
      rw [if_pos c1]
      exact h
    rw [if_neg c1] at h
    rw [if_neg c1]
    by_cases c2 : p.f0 ≥ 0
    · rw [if_pos c2] at h
      rw [if_pos c2]
      unfold template_piece.f at h
      by_cases c3 : p.f0 < (l2.length : Int)
      · rw [if_neg (by omega), if_pos c2, if_pos c3] at h
        rw [if_pos c3, if_pos (show 0 ≤ p.f0 from c2)]
        by_cases c4 : (rd_T55 l2 p.f0).f0 ≥ 0
        · rw [if_neg (by omega)] at h
          rw [if_pos c4]
          by_cases c5 : (rd_T55 l2 p.f0).f0 ≤ (rd_T55 l2 p.f0).f1
          · rw [if_neg (by omega)] at h
            rw [if_pos c5, runnelref13_DocBuild.j1]
            by_cases c6 : (rd_T55 l2 p.f0).f1 ≤ (a1.size : Int)
            · rw [if_neg (by omega), if_pos (by omega), if_pos c5, if_pos c6, Option.bind_some] at h
              rw [if_pos (decide_eq_true c6), if_pos (by omega), if_pos c3, if_pos (by omega), if_pos c5, if_pos c6]
              refine doc_add a1 l2 l0 (2 * n + 1) i acc _ r ha ?_ hi9 ih1 h
              rw [ByteArray.size_extract]
              omega
            · rw [if_pos (by omega), Option.bind_some] at h
              rw [decide_eq_false c6, if_neg (by decide)]
              exact doc_add a1 l2 l0 (2 * n + 1) i acc _ r ha (Nat.zero_le _) hi9 ih1 h
          · rw [if_pos (by omega), Option.bind_some] at h
            rw [if_neg c5, runnelref13_DocBuild.j1, if_neg (by decide)]
            exact doc_add a1 l2 l0 (2 * n + 1) i acc _ r ha (Nat.zero_le _) hi9 ih1 h
        · rw [if_pos (by omega), Option.bind_some] at h
          rw [if_neg c4, runnelref13_DocBuild.j1, if_neg (by decide)]
          exact doc_add a1 l2 l0 (2 * n + 1) i acc _ r ha (Nat.zero_le _) hi9 ih1 h
      · rw [if_pos (by omega), Option.bind_some] at h
        rw [if_neg c3, runnelref13_DocBuild.j1, if_neg (by decide)]
        exact doc_add a1 l2 l0 (2 * n + 1) i acc _ r ha (Nat.zero_le _) hi9 ih1 h
    · rw [if_neg c2, Option.bind_some] at h
      rw [if_neg c2]
      exact doc_add a1 l2 l0 (2 * n + 1 + 1) i acc _ r ha hpz hi9 ih2 h

end Go.Proofs.Ytdlbmajilmmapaa.Pure
