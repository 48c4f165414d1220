/- Layer 13 (template): what the reference's functions answer, and the awake calls. -/
import Derived.Test.YtdlbmajilmmapaaF23
import Derived.Test.YtdlbmajilmmapaaF24
namespace Go.Proofs.Ytdlbmajilmmapaa.Pure
open Go.RowKit Go.Proofs.Ytdlbmajilmmapaa.F Go.Proofs.YtdlbmajilmmapaaW.PrintWords Go.Proofs.YtdlbmajilmmapaaW.PrintLast

theorem laid_text (l : List S117) (s : ByteArray) (hl : l.length < 5864062014805) (hs : ∀ p ∈ l, p.f1.size ≤ 9007199254740992) (hss : s.size ≤ 9007199254740992) : runnelref13_laid.f l (-1) s = some (laidText l s) := by
  unfold runnelref13_laid.f laidText
  rw [if_pos (by decide)]
  have e : wrap64 ((l.length : Int) - 1) = (l.length : Int) - 1 := wrap_id (by omega) (by omega)
  rw [e]
  by_cases h0 : l = []
  · subst h0
    rw [if_neg (by decide), if_pos (by decide), if_pos rfl]
    rfl
  · have hlen : 0 < l.length := List.length_pos_iff.2 h0
    rw [if_pos (by omega), if_pos (by omega), if_pos (by omega), if_neg h0]
    by_cases h1 : (rd_T117 l ((l.length : Int) - 1)).f0 < 0
    · rw [if_pos h1, if_pos h1]
      have hsz : (rd_T117 l ((l.length : Int) - 1)).f1.size ≤ 9007199254740992 := by
        refine hs _ ?_
        unfold rd_T117
        rw [List.getD_eq_getElem?_getD, List.getElem?_eq_getElem (by omega)]
        exact List.getElem_mem _
      rw [if_pos (by omega), show ((l.length : Int) - 1).toNat = l.length - 1 from by omega]
    · rw [if_neg h1, if_neg h1, if_pos hl]
theorem laid_group (l : List S117) (x : Int) (s : ByteArray) (hx : 0 ≤ x) (hl : l.length < 5864062014805) : runnelref13_laid.f l x s = some (l ++ [⟨x, s⟩]) := by
  unfold runnelref13_laid.f
  rw [if_neg (by omega), if_pos hl]

set_option maxHeartbeats 1000000 in
theorem doc_parse (a0 : ByteArray) (hs : a0.size ≤ 4096) : ∀ (n i : Nat) (l : List S117) (t : List UInt8), a0.data.toList.drop i = t → i ≤ a0.size → t.length ≤ n → l.length ≤ i → (∀ p ∈ l, p.f1.size ≤ i) →
    runnelref13_DocParse.l0 (2 * n + 1) a0 l (i : Int) = some (parseT i l t) := by
  have h0 : ∀ (n i : Nat) (l : List S117), a0.data.toList.drop i = [] → i ≤ a0.size → runnelref13_DocParse.l0 (2 * n + 1) a0 l (i : Int) = some (parseT i l []) := by
    intro n i l ht hi
    have := at_nil ht hi
    rw [runnelref13_DocParse.l0, if_neg (by omega), parseT]
  intro n
  induction n with
  | zero =>
    intro i l t ht hi hn hl hp
    obtain rfl : t = [] := List.length_eq_zero_iff.1 (by omega)
    exact h0 0 i l ht hi
  | succ n ih =>
    intro i l t ht hi hn hl hp
    cases t with
    | nil => exact h0 _ i l ht hi
    | cons b t =>
      obtain ⟨hlt, hb, hdr⟩ := at_cons ht
      have hbs := byteStr_of ht
      have HW := Aside0.mk (F.wrap_one (i := i) (by omega))
      have hn' : t.length ≤ n := by simpa using hn
      have hlm : l.length < 5864062014805 := by omega
      have hpm : ∀ p ∈ l, p.f1.size ≤ 9007199254740992 := fun p h => Nat.le_trans (hp p h) (by omega)
      have hbsz : (byteStr b).size ≤ 9007199254740992 := by show (1 : Nat) ≤ _; omega
      rw [show 2 * (n + 1) + 1 = 2 * n + 1 + 1 + 1 from by omega, runnelref13_DocParse.l0, if_pos (by omega), if_pos (by omega), HW.out, if_pos (by omega), if_pos (by omega), hb]
      by_cases e10 : b = 10
      · rw [if_pos (eq_num (x := 10) 10 rfl e10), e10, parseT_line]
      rw [if_neg (ne_num (x := 10) 10 rfl e10)]
      by_cases e38 : b = 38
      · rw [if_pos (eq_num (x := 38) 38 rfl e38), runnelref13_DocParse.j1, if_pos (by omega), if_pos (by omega), hb, if_neg (ne_num (x := 92) 92 rfl (by rw [e38]; decide)), laid_group l 0 _ (by omega) hlm, Option.bind_some, HW.out, e38, parseT_amp]
        exact ih (i + 1) _ t hdr (by omega) hn' (by rw [List.length_append]; simp; omega) (fun p hp1 => Nat.le_succ_of_le (group_sizes l 0 i hp p hp1))
      rw [if_neg (ne_num (x := 38) 38 rfl e38), runnelref13_DocParse.j1, if_pos (by omega), if_pos (by omega), hb, show (i : Int).toNat = i from rfl, show ((i + 1 : Nat) : Int).toNat = i + 1 from rfl, hbs]
      by_cases e92 : b = 92
      · rw [if_pos (eq_num (x := 92) 92 rfl e92), HW.out, e92]
        cases t with
        | nil =>
          have := at_nil hdr (by omega)
          rw [if_pos (by omega), parseT_cut, wrap_id (by omega) (by omega), show ((i + 1 : Nat) : Int) - 1 = (i : Int) from by omega]
        | cons c t2 =>
          obtain ⟨hlt2, hb2, hdr2⟩ := at_cons hdr
          have hbs2 := byteStr_of hdr
          have HW2 := Aside0.mk (F.wrap_one (i := i + 1) (by omega))
          have hcsz : (byteStr c).size ≤ 9007199254740992 := by show (1 : Nat) ≤ _; omega
          have hn2 : t2.length ≤ n := by simp at hn'; omega
          have hl1 : ∀ s : ByteArray, s.size ≤ 1 → ∀ p ∈ laidText l s, p.f1.size ≤ i + 1 + 1 := fun s hs1 p hp1 => by have := laid_sizes l s i hp p hp1; omega
          have hl2 : ∀ s : ByteArray, (laidText l s).length ≤ i + 1 + 1 := fun s => by have := laid_length l s; omega
          rw [if_neg (by omega), if_pos (by omega), HW2.out, if_pos (by omega), if_pos (by omega), if_pos (by omega), hb2, parseT_esc, show ((i + 1 : Nat) : Int).toNat = i + 1 from rfl, show ((i + 1 + 1 : Nat) : Int).toNat = i + 1 + 1 from rfl, hbs2]
          unfold escT
          have hnl : ∀ k : Nat, k = 10 → (⟨#[10]⟩ : ByteArray).size ≤ 9007199254740992 := fun _ _ => by decide
          by_cases e0 : 48 ≤ c.toNat ∧ c.toNat ≤ 57
          · have e110 : ¬ c = 110 := by rintro rfl; exact absurd e0.2 (by decide)
            rw [if_neg (ne_num (x := 110) 110 rfl e110), if_pos (by omega), if_pos (by omega), if_pos e0, show ((c.toNat : Int) - 48) % 256 = (c.toNat : Int) - 48 from by omega, laid_group l _ _ (by omega) hlm, Option.bind_some]
            exact ih (i + 1 + 1) _ t2 hdr2 (by omega) hn2 (by rw [List.length_append]; simp; omega) (fun p hp1 => by have := group_sizes l _ i hp p hp1; omega)
          · rw [if_neg e0]
            by_cases e110 : c = 110
            · rw [if_pos (eq_num (x := 110) 110 rfl e110), if_pos e110, laid_text l _ hlm hpm (by decide), Option.bind_some]
              have h48 : (48 : Int) ≤ (c.toNat : Int) := by rw [e110]; decide
              have h57 : ¬ ((c.toNat : Int) ≤ 57) := by rw [e110]; decide
              rw [if_pos h48, if_neg h57]
              exact ih (i + 1 + 1) _ t2 hdr2 (by omega) hn2 (hl2 _) (hl1 _ (by decide))
            · rw [if_neg (ne_num (x := 110) 110 rfl e110), if_neg e110, laid_text l _ hlm hpm hcsz, Option.bind_some]
              have hih := ih (i + 1 + 1) (laidText l (byteStr c)) t2 hdr2 (by omega) hn2 (hl2 _) (hl1 _ (Nat.le_refl 1))
              by_cases h48 : (c.toNat : Int) ≥ 48
              · rw [if_pos h48, if_neg (by omega)]
                exact hih
              · rw [if_neg h48]
                exact hih
      · rw [if_neg (ne_num (x := 92) 92 rfl e92), laid_text l _ hlm hpm hbsz, Option.bind_some, HW.out, parseT_text i l b t e38 e10 e92]
        exact ih (i + 1) _ t hdr (by omega) hn' (by have := laid_length l (byteStr b); omega) (fun p hp1 => laid_sizes l (byteStr b) i hp p hp1)

theorem same_self (l : List S117) (hl : l.length ≤ 9007199254740992) : ∀ (n i : Nat), i + n = l.length → runnelref13_Same.l0 (n + 1) l l (i : Int) = some true := by
  intro n
  induction n with
  | zero => intro i h; rw [runnelref13_Same.l0, if_neg (by omega)]
  | succ n ih =>
    intro i h
    rw [runnelref13_Same.l0, if_pos (by omega), if_pos (by omega), if_pos (by omega), if_neg (by simp), F.wrap_one (by omega)]
    exact ih (i + 1) (by omega)
theorem same_list (l : List S117) (hl : l.length ≤ 9007199254740992) (k : Nat) (hk : l.length + 1 ≤ k) : runnelref13_Same.f k l l = some true := by
  refine at_rounds (g := fun k => runnelref13_Same.f k l l) (runnelref13_Same.mono l l) hk ?_
  show runnelref13_Same.f (l.length + 1) l l = some true
  unfold runnelref13_Same.f
  rw [if_pos rfl]
  exact same_self l hl l.length 0 (by omega)

theorem parseT_length : ∀ (n i : Nat) (l : List S117) (t : List UInt8), t.length ≤ n → (parseT i l t).1.length ≤ l.length + t.length := by
  intro n
  induction n with
  | zero =>
    intro i l t h
    obtain rfl : t = [] := List.length_eq_zero_iff.1 (by omega)
    rw [parseT]; exact Nat.le_refl _
  | succ n ih =>
    intro i l t h
    cases t with
    | nil => rw [parseT]; exact Nat.le_refl _
    | cons b t =>
      have hn : t.length ≤ n := by simpa using h
      by_cases e38 : b = 38
      · rw [e38, parseT_amp]
        have := ih (i + 1) (l ++ [⟨0, ⟨#[]⟩⟩]) t hn
        rw [List.length_append] at this
        simp at this ⊢; omega
      by_cases e10 : b = 10
      · rw [e10, parseT_line]; simp
      by_cases e92 : b = 92
      · rw [e92]
        cases t with
        | nil => rw [parseT_cut]; simp
        | cons c t =>
          rw [parseT_esc]
          have := ih (i + 2) (escT l c) t (by simp at hn; omega)
          have h2 : (escT l c).length ≤ l.length + 1 := by
            unfold escT
            split
            · simp
            · split <;> exact laid_length _ _
          simp; omega
      · rw [parseT_text i l b t e38 e10 e92]
        have := ih (i + 1) (laidText l (byteStr b)) t hn
        have h2 := laid_length l (byteStr b)
        simp; omega

theorem awake13 : runnellaw13_awake.f 6 = some true := by
  unfold runnellaw13_awake.f
  kernel_rfl
end Go.Proofs.Ytdlbmajilmmapaa.Pure
