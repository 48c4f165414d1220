/- What Until and Text answer, in plain words on lists of bytes; and that scan's calls with known answers answer so. -/
import Derived.Test.YtdlbmajilmmapaaScanPure
namespace Go.Proofs.Ytdlbmajilmmapaa.F
open Go.RowKit Go.Proofs.YtdlbmajilmmapaaW.PrintWords Go.Proofs.YtdlbmajilmmapaaW.PrintLast Go.Proofs.YtdlbmajilmmapaaW.PrintMore

/-! ## Text -/
def textL : List UInt8 → Option (List UInt8 × Nat)
  | [] => some ([], 0)
  | [b] => if b = 10 then some ([], 1) else if b = 92 then none else some ([b], 1)
  | b :: c :: t => if b = 10 then some ([], 1) else if b = 92 then (textL t).map (fun p => (c :: p.1, p.2 + 2)) else (textL (c :: t)).map (fun p => (b :: p.1, p.2 + 1))

def textR (acc : List UInt8) (i : Nat) (l : List UInt8) : ByteArray × Int × Int :=
  match textL l with
  | none => (⟨#[]⟩, 0, 6)
  | some p => (strOfNums (bts (acc ++ p.1 ++ [10])), ((i + p.2 : Nat) : Int), 0)

theorem bts_snoc (acc : List UInt8) (b : UInt8) : bts acc ++ [(b.toNat : Int)] = bts (acc ++ [b]) := by rw [bts_append]; rfl
theorem bts_ten (acc : List UInt8) : bts acc ++ [10] = bts (acc ++ [10]) := bts_snoc acc 10

theorem textR_nil (acc : List UInt8) (i : Nat) : textR acc i [] = (strOfNums (bts (acc ++ [10])), (i : Int), 0) := by simp [textR, textL]
theorem textR_line (acc : List UInt8) (i : Nat) (l : List UInt8) : textR acc i (10 :: l) = (strOfNums (bts (acc ++ [10])), ((i + 1 : Nat) : Int), 0) := by
  cases l <;> simp [textR, textL]
theorem textR_cut (acc : List UInt8) (i : Nat) : textR acc i [92] = (⟨#[]⟩, 0, 6) := by simp [textR, textL]
theorem textR_esc (acc : List UInt8) (i : Nat) (c : UInt8) (l : List UInt8) : textR acc i (92 :: c :: l) = textR (acc ++ [c]) (i + 2) l := by
  simp only [textR]
  rw [show textL (92 :: c :: l) = (textL l).map (fun p => (c :: p.1, p.2 + 2)) from by rw [textL, if_neg (by decide), if_pos rfl]]
  cases textL l with
  | none => rfl
  | some p => simp [List.append_assoc]; omega
theorem textR_step (acc : List UInt8) (i : Nat) (b : UInt8) (l : List UInt8) (h10 : b ≠ 10) (h92 : b ≠ 92) : textR acc i (b :: l) = textR (acc ++ [b]) (i + 1) l := by
  cases l with
  | nil => simp [textR, textL, h10, h92]
  | cons c t =>
    simp only [textR]
    rw [show textL (b :: c :: t) = (textL (c :: t)).map (fun p => (b :: p.1, p.2 + 1)) from by rw [textL, if_neg h10, if_neg h92]]
    cases textL (c :: t) with
    | none => rfl
    | some p => simp [List.append_assoc]; omega

theorem scan_Text_l0 (s : ByteArray) (hs : s.size ≤ 140737488351232) (at_ : Int) (hat : wrap64 (at_ + 2) ≠ (s.size : Int)) : ∀ (l : List UInt8) (i k : Nat) (acc : List UInt8), s.data.toList.drop i = l → i ≤ s.size → acc.length ≤ i → l.length < k →
    scan_Text.l0 k s at_ (bts acc) (i : Int) = some (textR acc i l)
  | [], i, k, acc, hl, hi, ha, hk => by
    obtain ⟨k, rfl⟩ : ∃ m, k = m + 1 := ⟨k - 1, by simp at hk; omega⟩
    have := at_nil hl hi
    simp only [scan_Text.l0]
    rw [if_neg (by omega), if_neg hat, if_pos (by rw [bts_length]; omega), bts_ten, textR_nil, this]
  | b :: l, i, k, acc, hl, hi, ha, hk => by
    obtain ⟨k, rfl⟩ : ∃ m, k = m + 1 := ⟨k - 1, by simp at hk; omega⟩
    obtain ⟨hlt, hb, hd⟩ := at_cons hl
    simp only [List.length_cons] at hk
    simp only [scan_Text.l0]
    rw [if_pos (by omega), if_pos (by omega), hb, wrap_one (by omega)]
    by_cases e10 : b = 10
    · subst e10
      rw [if_pos (by decide), if_pos (by rw [bts_length]; omega), bts_ten, textR_line]
    rw [if_neg (ne_num (x := 10) 10 rfl e10)]
    by_cases e92 : b = 92
    · subst e92
      rw [if_pos (by decide)]
      clear hb
      cases l with
      | nil =>
        have hend := at_nil hd (by omega)
        rw [if_pos (by omega), textR_cut]
      | cons c t =>
        obtain ⟨hlt2, hc, hd2⟩ := at_cons hd
        simp only [List.length_cons] at hk
        rw [if_neg (by omega), if_pos (by omega), if_pos (by omega), if_pos (by rw [bts_length]; omega), hc, bts_snoc, wrap_one' (by omega), textR_esc]
        exact scan_Text_l0 s hs at_ hat t (i + 2) k (acc ++ [c]) hd2 (by omega) (by simp; omega) (by omega)
    · rw [if_neg (ne_num (x := 92) 92 rfl e92), if_pos (by rw [bts_length]; omega), bts_snoc, textR_step _ _ _ _ e10 e92]
      exact scan_Text_l0 s hs at_ hat l (i + 1) k (acc ++ [b]) hd (by omega) (by simp; omega) (by omega)

theorem ref_Text_l0 (s : ByteArray) (hs : s.size ≤ 140737488351232) : ∀ (l : List UInt8) (i k : Nat) (acc : List UInt8), s.data.toList.drop i = l → i ≤ s.size → acc.length ≤ i → 2 * l.length + 1 < k →
    runnelref17_DocText.l0 k s (i : Int) (bts acc) = some (textR acc i l)
  | [], i, k, acc, hl, hi, ha, hk => by
    obtain ⟨k, rfl⟩ : ∃ m, k = m + 2 := ⟨k - 2, by simp at hk; omega⟩
    have := at_nil hl hi
    simp only [runnelref17_DocText.l0]
    rw [if_neg (by omega)]
    simp only [runnelref17_DocText.j2]
    rw [if_neg (by simp), if_neg (by omega), if_pos (by rw [bts_length]; omega), bts_ten, textR_nil]
  | b :: l, i, k, acc, hl, hi, ha, hk => by
    obtain ⟨k, rfl⟩ : ∃ m, k = m + 2 := ⟨k - 2, by simp at hk; omega⟩
    obtain ⟨hlt, hb, hd⟩ := at_cons hl
    simp only [List.length_cons] at hk
    simp only [runnelref17_DocText.l0]
    rw [if_pos (by omega), if_pos (by omega)]
    simp only [runnelref17_DocText.j2]
    rw [hb, wrap_one (by omega)]
    by_cases e10 : b = 10
    · subst e10
      rw [if_neg (by decide), if_pos (by omega), if_pos (by rw [bts_length]; omega), bts_ten, textR_line]
    have hne : ((b.toNat : Int) != 10) = true := bne_iff_ne.2 (ne_num (x := 10) 10 rfl e10)
    rw [if_pos hne, if_pos (by omega), if_pos (by omega)]
    by_cases e92 : b = 92
    · subst e92
      rw [if_pos (by decide)]
      clear hb
      cases l with
      | nil =>
        have hend := at_nil hd (by omega)
        rw [if_pos (by omega), textR_cut]
      | cons c t =>
        obtain ⟨hlt2, hc, hd2⟩ := at_cons hd
        simp only [List.length_cons] at hk
        rw [if_neg (by omega), if_pos (by omega), if_pos (by omega), if_pos (by rw [bts_length]; omega), hc, bts_snoc, wrap_one' (by omega), textR_esc]
        exact ref_Text_l0 s hs t (i + 2) k (acc ++ [c]) hd2 (by omega) (by simp; omega) (by omega)
    · rw [if_neg (ne_num (x := 92) 92 rfl e92), if_pos (by rw [bts_length]; omega), bts_snoc, textR_step _ _ _ _ e10 e92]
      exact ref_Text_l0 s hs l (i + 1) k (acc ++ [b]) hd (by omega) (by simp; omega) (by omega)

/-- what Text answers -/
def textA (s : ByteArray) (a : Int) : ByteArray × Int × Int :=
  let i := insideN s a + blanksN (s.data.toList.drop (insideN s a))
  match s.data.toList.drop i with
  | [92, 10] => (⟨#[]⟩, 0, 6)
  | 92 :: 10 :: b :: l => textR [] (i + 2) (b :: l)
  | _ => (⟨#[]⟩, 0, 19)

theorem text_start_le (s : ByteArray) (a : Int) : insideN s a + blanksN (s.data.toList.drop (insideN s a)) ≤ s.size := by
  have h1 := insideN_le s a
  have h2 := blanksN_le (s.data.toList.drop (insideN s a))
  rw [length_drop] at h2
  omega

theorem textA_three (s : ByteArray) (a : Int) {b c : UInt8} {l : List UInt8} (h : s.data.toList.drop (insideN s a + blanksN (s.data.toList.drop (insideN s a))) = b :: c :: l) :
    textA s a = if b = 92 ∧ c = 10 then (if l = [] then (⟨#[]⟩, 0, 6) else textR [] (insideN s a + blanksN (s.data.toList.drop (insideN s a)) + 2) l) else (⟨#[]⟩, 0, 19) := by
  unfold textA
  simp only
  rw [h]
  by_cases hb : b = 92
  · by_cases hc : c = 10
    · subst hb; subst hc
      cases l with
      | nil => simp
      | cons x l => simp
    · rw [if_neg (fun e => hc e.2)]
      split
      · rename_i e; injection e with e1 e2; injection e2 with e3 e4; exact absurd e3 hc
      · rename_i e; injection e with e1 e2; injection e2 with e3 e4; exact absurd e3 hc
      · rfl
  · rw [if_neg (fun e => hb e.1)]
    split
    · rename_i e; injection e with e1 e2; exact absurd e1 hb
    · rename_i e; injection e with e1 e2; exact absurd e1 hb
    · rfl

theorem textA_short (s : ByteArray) (a : Int) (h : s.size < insideN s a + blanksN (s.data.toList.drop (insideN s a)) + 2) : textA s a = (⟨#[]⟩, 0, 19) := by
  have hl : (s.data.toList.drop (insideN s a + blanksN (s.data.toList.drop (insideN s a)))).length < 2 := by rw [length_drop]; omega
  unfold textA
  simp only
  generalize s.data.toList.drop (insideN s a + blanksN (s.data.toList.drop (insideN s a))) = l at hl
  match l, hl with
  | [], _ => rfl
  | [_], _ => simp

theorem scan_Text_l0' (s : ByteArray) (hs : s.size ≤ 140737488351232) (i k : Nat) (l : List UInt8) (hd : s.data.toList.drop (i + 2) = l) (hi : i + 2 ≤ s.size) (hk : l.length < k) :
    scan_Text.l0 k s (i : Int) ([] : List Int) ((i + 2 : Nat) : Int) = some (if l = [] then (⟨#[]⟩, 0, 6) else textR [] (i + 2) l) := by
  by_cases hn : l = []
  · subst hn
    have := at_nil hd hi
    obtain ⟨k, rfl⟩ : ∃ m, k = m + 1 := ⟨k - 1, by simp at hk; omega⟩
    simp only [scan_Text.l0]
    rw [if_neg (by omega), wrap_two (by omega), if_pos (by omega)]
    simp
  · rw [if_neg hn]
    have hne : i + 2 ≠ s.size := by
      intro e
      apply hn
      rw [← hd]
      apply List.drop_eq_nil_iff.2
      rw [← size_list]
      omega
    exact scan_Text_l0 s hs (i : Int) (by rw [wrap_two (by omega)]; omega) l (i + 2) k [] hd hi (by simp) hk

theorem scan_Text_is (s : ByteArray) (hs : s.size ≤ 140737488351232) (a : Int) (k : Nat) (hk : s.size + 2 < k) : scan_Text.f k s a = some (textA s a) := by
  unfold scan_Text.f
  rw [scan_Blanks_is s hs a k (by omega)]
  rw [Option.bind_some]
  have hle := text_start_le s a
  have h3 := fun b c l h => textA_three s a (b := b) (c := c) (l := l) h
  have hA := textA_short s a
  generalize insideN s a + blanksN (s.data.toList.drop (insideN s a)) = i at hle h3 hA ⊢
  obtain ⟨k, rfl⟩ : ∃ m, k = m + 1 := ⟨k - 1, by omega⟩
  rw [wrap_two (by omega)]
  by_cases h2 : ((i + 2 : Nat) : Int) > s.size
  · rw [if_pos h2]
    simp only [scan_Text.j0]
    rw [if_pos trivial, hA (by omega)]
  · rw [if_neg h2, if_pos (by omega), if_pos (by omega), if_pos (by omega)]
    obtain ⟨b, c, l, hd⟩ := two_of (s := s) (i := i) (by omega)
    rw [h3 b c l hd]
    have hx : (s.extract (i : Int).toNat ((i + 2 : Nat) : Int).toNat).toList = [b, c] := by
      rw [extract_toList, show ((i : Int)).toNat = i from by omega, show (((i + 2 : Nat) : Int)).toNat = i + 2 from by omega, hd]
      rw [show i + 2 - i = 2 from by omega]
      rfl
    rw [hx]
    have hd2 : s.data.toList.drop (i + 2) = l := (at_cons (at_cons hd).2.2).2.2
    have hl : l.length = s.size - (i + 2) := by rw [← hd2, length_drop]
    simp only [scan_Text.j0]
    by_cases hbc : b = 92 ∧ c = 10
    · have hb : (([b, c] : List UInt8) != [92, 10]) = false := by rw [hbc.1, hbc.2]; decide
      rw [hb, if_neg (by simp), if_pos hbc, wrap_two (by omega)]
      exact scan_Text_l0' s hs i k l hd2 (by omega) (by omega)
    · have hb : (([b, c] : List UInt8) != [92, 10]) = true := by
        simp only [bne_iff_ne, ne_eq, List.cons.injEq, and_true]
        exact hbc
      rw [hb, if_neg hbc, if_pos rfl]

theorem ref_Text_is (s : ByteArray) (hs : s.size ≤ 140737488351232) (a : Int) (k : Nat) (hk : 2 * s.size + 4 < k) : runnelref17_DocText.f k s a = some (textA s a) := by
  unfold runnelref17_DocText.f
  rw [ref_Blanks_is s hs a k (by omega)]
  rw [Option.bind_some]
  have hle := text_start_le s a
  have h3 := fun b c l h => textA_three s a (b := b) (c := c) (l := l) h
  have hA := textA_short s a
  generalize insideN s a + blanksN (s.data.toList.drop (insideN s a)) = i at hle h3 hA ⊢
  obtain ⟨k, rfl⟩ : ∃ m, k = m + 1 := ⟨k - 1, by omega⟩
  rw [wrap_one (by omega)]
  have hT : runnelref17_DocText.j0 (k + 1) s (i : Int) true = some (⟨#[]⟩, 0, 19) := by simp only [runnelref17_DocText.j0]; rw [if_pos trivial]
  by_cases h2 : ((i + 1 : Nat) : Int) ≥ s.size
  · rw [if_pos h2, hT, hA (by omega)]
  · rw [if_neg h2, if_pos (by omega), if_pos (by omega)]
    obtain ⟨b, c, l, hd⟩ := two_of (s := s) (i := i) (by omega)
    rw [h3 b c l hd]
    obtain ⟨_, hb, hd1⟩ := at_cons hd
    obtain ⟨_, hc, hd2⟩ := at_cons hd1
    have hl : l.length = s.size - (i + 2) := by rw [← hd2, length_drop]
    rw [hb, if_pos (show (0 : Int) ≤ ((i + 1 : Nat) : Int) from by omega), if_pos (show ((i + 1 : Nat) : Int) < (s.size : Int) from by omega), hc]
    clear hb hc
    by_cases e92 : b = 92
    · rw [if_pos (eq_num (x := 92) 92 rfl e92)]
      simp only [runnelref17_DocText.j0]
      by_cases e10 : c = 10
      · have hb : (((c.toNat : Nat) : Int) != 10) = false := by rw [e10]; decide
        rw [hb, if_neg (by simp), wrap_two (by omega), if_pos (show b = 92 ∧ c = 10 from ⟨e92, e10⟩)]
        clear e10 e92 hb
        by_cases hn : l = []
        · rw [if_pos hn]
          subst hn
          have := at_nil hd2 (by omega)
          rw [if_pos (by omega)]
        · rw [if_neg hn]
          have hne : i + 2 ≠ s.size := by
            intro e
            apply hn
            rw [← hd2]
            apply List.drop_eq_nil_iff.2
            rw [← size_list]
            omega
          rw [if_neg (by omega)]
          exact ref_Text_l0 s hs l (i + 2) k [] hd2 (by omega) (by simp) (by omega)
      · have hb : (((c.toNat : Nat) : Int) != 10) = true := bne_iff_ne.2 (ne_num (x := 10) 10 rfl e10)
        rw [hb, if_pos rfl, if_neg (fun e => e10 e.2)]
    · rw [if_neg (ne_num (x := 92) 92 rfl e92), if_neg (fun e => e92 e.1), hT]

end Go.Proofs.Ytdlbmajilmmapaa.F
