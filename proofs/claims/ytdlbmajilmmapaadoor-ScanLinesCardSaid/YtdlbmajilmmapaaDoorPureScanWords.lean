/- Of layer 17 (scan): at every text and place Line, Word and Name answer what the reference answers. No condition. -/
import Derived.Test.YtdlbmajilmmapaaDoorBytes
import Derived.Test.YtdlbmajilmmapaaDoorF3
namespace Go.Proofs.YtdlbmajilmmapaaDoor.Pure
open Go.RowKit Go.Proofs.YtdlbmajilmmapaaDoor.F Go.Proofs.YtdlbmajilmmapaaDoorW.PrintWords Go.Proofs.YtdlbmajilmmapaaDoorW.PrintLast Go.Proofs.YtdlbmajilmmapaaDoorW.PrintMore
set_option linter.unusedVariables false

/-! ## inside, Blanks -/
def insideN (s : ByteArray) (at_ : Int) : Nat := if at_ < 0 then 0 else if (s.size : Int) < at_ then s.size else at_.toNat
theorem insideN_le (s : ByteArray) (a : Int) : insideN s a ≤ s.size := by unfold insideN; (repeat' split) <;> omega
theorem scan_inside_is (s : ByteArray) (a : Int) : scan_inside.f s a = some (insideN s a : Int) := by
  unfold scan_inside.f insideN mn mx
  congr 1
  (repeat' split) <;> omega
theorem ref_inside_is (s : ByteArray) (a : Int) : runnelref17_inside.f s a = some (insideN s a : Int) := by
  unfold runnelref17_inside.f insideN
  (repeat' split) <;> first | rfl | (congr 1; omega) | omega

def blankB (b : UInt8) : Bool := b == 32 || b == 9
def blanksN : List UInt8 → Nat
  | [] => 0
  | b :: l => if blankB b then blanksN l + 1 else 0
theorem blanksN_le (l : List UInt8) : blanksN l ≤ l.length := by
  induction l with
  | nil => exact Nat.le_refl _
  | cons b l ih => unfold blanksN; split <;> simp <;> omega
theorem scan_blank_is (b : UInt8) : scan_blank.f (b.toNat : Int) = some (blankB b) := by
  unfold scan_blank.f blankB
  have h32 : ((b.toNat : Int) = 32) ↔ b = 32 := byte_lit b 32
  have h9 : ((b.toNat : Int) = 9) ↔ b = 9 := byte_lit b 9
  by_cases h : b = 32
  · rw [if_pos (h32.2 h)]; subst h; rfl
  · rw [if_neg (fun e => h (h32.1 e))]
    congr 1
    rw [Bool.eq_iff_iff]
    simp [h, h9]
theorem scan_Blanks_l0 (s : ByteArray) (hs : s.size ≤ 9007199254740992) (l : List UInt8) : ∀ (i k : Nat), s.data.toList.drop i = l → i ≤ s.size → l.length < k →
    scan_Blanks.l0 k s (i : Int) = some ((i + blanksN l : Nat) : Int) := by
  induction l with
  | nil =>
    intro i k hl hi hk
    obtain ⟨k, rfl⟩ : ∃ m, k = m + 1 := ⟨k - 1, by simp at hk; omega⟩
    have := at_nil hl hi
    simp only [scan_Blanks.l0]
    rw [if_neg (by omega)]
    simp [blanksN]
  | cons b l ih =>
    intro i k hl hi hk
    obtain ⟨k, rfl⟩ : ∃ m, k = m + 1 := ⟨k - 1, by simp at hk; omega⟩
    obtain ⟨hlt, hb, hd⟩ := at_cons hl
    simp only [scan_Blanks.l0]
    rw [if_pos (by omega), if_pos (by omega), hb, scan_blank_is]
    simp only [Option.bind_some]
    unfold blanksN
    by_cases h : blankB b = true
    · rw [if_pos h, if_pos h, wrap_id (by omega) (by omega)]
      have := ih (i + 1) k hd (by omega) (by simp at hk; omega)
      rw [show ((i : Int) + 1) = ((i + 1 : Nat) : Int) from by omega, this]
      congr 1; omega
    · rw [if_neg h, if_neg h]
      rfl
theorem scan_Blanks_is (s : ByteArray) (hs : s.size ≤ 9007199254740992) (a : Int) (k : Nat) (hk : s.size < k) :
    scan_Blanks.f k s a = some ((insideN s a + blanksN (s.data.toList.drop (insideN s a)) : Nat) : Int) := by
  unfold scan_Blanks.f
  rw [scan_inside_is]
  simp only [Option.bind_some]
  exact scan_Blanks_l0 s hs _ _ k rfl (insideN_le s a) (by rw [length_drop]; omega)
theorem ref_Blanks_l0 (s : ByteArray) (hs : s.size ≤ 9007199254740992) (l : List UInt8) : ∀ (i k : Nat), s.data.toList.drop i = l → i ≤ s.size → l.length < k →
    runnelref17_Blanks.l0 k s (i : Int) = some ((i + blanksN l : Nat) : Int) := by
  induction l with
  | nil =>
    intro i k hl hi hk
    obtain ⟨k, rfl⟩ : ∃ m, k = m + 1 := ⟨k - 1, by simp at hk; omega⟩
    have := at_nil hl hi
    simp only [runnelref17_Blanks.l0]
    rw [if_neg (by omega)]
    simp [blanksN, this]
  | cons b l ih =>
    intro i k hl hi hk
    obtain ⟨k, rfl⟩ : ∃ m, k = m + 1 := ⟨k - 1, by simp at hk; omega⟩
    obtain ⟨hlt, hb, hd⟩ := at_cons hl
    simp only [runnelref17_Blanks.l0]
    rw [if_pos (by omega), if_pos (by omega), hb]
    have h32 : ((b.toNat : Int) = 32) ↔ b = 32 := byte_lit b 32
    have h9 : ((b.toNat : Int) = 9) ↔ b = 9 := byte_lit b 9
    have := ih (i + 1) k hd (by omega) (by simp at hk; omega)
    rw [wrap_id (by omega) (by omega), show ((i : Int) + 1) = ((i + 1 : Nat) : Int) from by omega, this]
    by_cases h : b = 32
    · have hB : blanksN (b :: l) = blanksN l + 1 := by rw [blanksN, if_pos (by simp [blankB, h])]
      rw [if_pos (h32.2 h), hB]; congr 1; omega
    · rw [if_neg (fun e => h (h32.1 e))]
      by_cases h' : b = 9
      · have hB : blanksN (b :: l) = blanksN l + 1 := by rw [blanksN, if_pos (by simp [blankB, h'])]
        rw [if_pos (h9.2 h'), hB]; congr 1; omega
      · have hB : blanksN (b :: l) = 0 := by rw [blanksN, if_neg (by simp [blankB, h, h'])]
        rw [if_neg (fun e => h' (h9.1 e)), hB]; rfl
theorem ref_Blanks_is (s : ByteArray) (hs : s.size ≤ 9007199254740992) (a : Int) (k : Nat) (hk : s.size < k) :
    runnelref17_Blanks.f k s a = some ((insideN s a + blanksN (s.data.toList.drop (insideN s a)) : Nat) : Int) := by
  unfold runnelref17_Blanks.f
  rw [ref_inside_is]
  simp only [Option.bind_some]
  exact ref_Blanks_l0 s hs _ _ k rfl (insideN_le s a) (by rw [length_drop]; omega)


/-! ## the end of a line, of a word -/
def upTo (p : UInt8 → Bool) : List UInt8 → Nat
  | [] => 0
  | b :: l => if p b then 0 else upTo p l + 1
theorem upTo_le (p : UInt8 → Bool) (l : List UInt8) : upTo p l ≤ l.length := by
  induction l with
  | nil => exact Nat.le_refl _
  | cons b l ih => unfold upTo; split <;> simp <;> omega
theorem index_is (c : UInt8) (l : List UInt8) : Lib.indexByte l c = if upTo (· == c) l < l.length then (upTo (· == c) l : Int) else -1 := by
  induction l with
  | nil => rfl
  | cons b l ih =>
    have hle := upTo_le (· == c) l
    rw [Lib.indexByte, upTo]
    by_cases h : (b == c) = true
    · rw [if_pos h, if_pos h, if_pos (by simp)]; rfl
    · rw [if_neg h, if_neg h, ih]
      by_cases hl : upTo (· == c) l < l.length
      · rw [if_pos hl, if_neg (by rw [beq_iff_eq]; omega), if_pos (by rw [List.length_cons]; omega)]; omega
      · rw [if_neg hl, if_pos (by rfl), if_neg (by rw [List.length_cons]; omega)]
/-- the first end of a line, then of a word in it: the first of both -/
theorem upTo_two (p q : UInt8 → Bool) (l : List UInt8) : upTo q (l.take (upTo p l)) = upTo (fun b => p b || q b) l := by
  induction l with
  | nil => rfl
  | cons b l ih =>
    cases hp : p b with
    | true => simp [upTo, hp]
    | false =>
      cases hq : q b with
      | true => simp [upTo, hp, hq]
      | false => simp [upTo, hp, hq, ih]
theorem upTo_take_le (p q : UInt8 → Bool) (l : List UInt8) : upTo q (l.take (upTo p l)) ≤ upTo p l := by
  have := upTo_le q (l.take (upTo p l))
  have h2 : (l.take (upTo p l)).length ≤ upTo p l := by rw [List.length_take]; omega
  omega

def startN (s : ByteArray) (a : Int) : Nat := insideN s a + blanksN (s.data.toList.drop (insideN s a))
theorem startN_le (s : ByteArray) (a : Int) : startN s a ≤ s.size := by
  have h1 := insideN_le s a
  have h2 := blanksN_le (s.data.toList.drop (insideN s a))
  rw [length_drop] at h2
  unfold startN; omega
def lineN (s : ByteArray) (a : Int) : Nat := startN s a + upTo (· == 10) (s.data.toList.drop (startN s a))
def endN (s : ByteArray) (a : Int) : Nat := startN s a + upTo (fun b => b == 10 || b == 59) (s.data.toList.drop (startN s a))
theorem lineN_le (s : ByteArray) (a : Int) : lineN s a ≤ s.size := by
  have h1 := startN_le s a
  have h2 := upTo_le (· == 10) (s.data.toList.drop (startN s a))
  rw [length_drop] at h2
  unfold lineN; omega
theorem ext_take (s : ByteArray) (a n : Nat) : (s.extract a (a + n)).data.toList = (s.data.toList.drop a).take n := by
  rw [Lib.extract_data, Nat.add_sub_cancel_left]
theorem ext_rest (s : ByteArray) (a : Nat) : (s.extract a s.size).data.toList = s.data.toList.drop a := by
  rw [Lib.extract_data, List.take_of_length_le]
  rw [length_drop]; exact Nat.le_refl _

theorem scan_Line_is (s : ByteArray) (hs : s.size ≤ 140737488351232) (a : Int) (k : Nat) (hk : s.size < k) :
    scan_Line.f k s a = some (s.extract (startN s a) (lineN s a), (lineN s a : Int)) := by
  have hst := startN_le s a
  have hln := lineN_le s a
  have hle := upTo_le (· == 10) (s.data.toList.drop (startN s a))
  rw [length_drop] at hle
  unfold scan_Line.f
  rw [scan_Blanks_is s (by omega) a k hk, Option.bind_some]
  rw [show insideN s a + blanksN (s.data.toList.drop (insideN s a)) = startN s a from rfl]
  rw [if_pos (by omega), if_pos (by omega)]
  unfold strings_IndexByte.f
  rw [Option.bind_some, Int.toNat_natCast, ext_rest, show (10 : Int).toNat.toUInt8 = 10 from rfl, index_is, length_drop]
  have hd : lineN s a = startN s a + upTo (· == 10) (s.data.toList.drop (startN s a)) := rfl
  generalize hu : upTo (· == 10) (s.data.toList.drop (startN s a)) = u at *
  by_cases h : u < s.size - startN s a
  · rw [if_pos h, if_pos (by omega)]
    have hw : wrap64 ((startN s a : Int) + (u : Int)) = (lineN s a : Int) := by rw [wrap_id (by omega) (by omega)]; omega
    rw [hw, if_pos (by omega), if_pos (by omega), Int.toNat_natCast]
  · rw [if_neg h, if_neg (by omega), if_pos (Int.le_refl _), Int.toNat_natCast]
    have : lineN s a = s.size := by omega
    rw [this]

theorem ref_Line_l0 (s : ByteArray) (hs : s.size ≤ 140737488351232) (from_ : Nat) (l : List UInt8) : ∀ (i k : Nat), s.data.toList.drop i = l → i ≤ s.size → from_ ≤ i → l.length < k →
    runnelref17_Line.l0 k s (from_ : Int) (i : Int) = some (s.extract from_ (i + upTo (· == 10) l), ((i + upTo (· == 10) l : Nat) : Int)) := by
  induction l with
  | nil =>
    intro i k hl hi hf hk
    obtain ⟨k, rfl⟩ : ∃ m, k = m + 1 := ⟨k - 1, by simp at hk; omega⟩
    have := at_nil hl hi
    rw [runnelref17_Line.l0]
    rw [if_neg (by omega), if_pos (by omega), if_pos (by omega), if_pos (by omega)]
    simp [upTo]
  | cons b l ih =>
    intro i k hl hi hf hk
    obtain ⟨k, rfl⟩ : ∃ m, k = m + 1 := ⟨k - 1, by simp at hk; omega⟩
    obtain ⟨hlt, hb, hd⟩ := at_cons hl
    rw [runnelref17_Line.l0]
    rw [if_pos (by omega), if_pos (by omega), hb, upTo]
    by_cases h : b = 10
    · subst h
      rw [if_pos (by decide), if_pos (by omega), if_pos (by omega), if_pos (by omega)]
      simp
    · rw [if_neg (ne_num (x := 10) 10 rfl h), if_neg (by simpa using h), wrap_one (by omega)]
      rw [ih (i + 1) k hd (by omega) (by omega) (by simp at hk; omega)]
      rw [show i + 1 + upTo (· == 10) l = i + (upTo (· == 10) l + 1) from by omega]
theorem ref_Line_is (s : ByteArray) (hs : s.size ≤ 140737488351232) (a : Int) (k : Nat) (hk : s.size < k) :
    runnelref17_Line.f k s a = some (s.extract (startN s a) (lineN s a), (lineN s a : Int)) := by
  unfold runnelref17_Line.f
  rw [ref_Blanks_is s (by omega) a k hk, Option.bind_some]
  exact ref_Line_l0 s hs (startN s a) _ (startN s a) k rfl (startN_le s a) (Nat.le_refl _) (by rw [length_drop]; omega)

/-! ## Word -/
theorem isBl_num (b : UInt8) : isBl b = true ↔ ((b.toNat : Int) = 32 ∨ (b.toNat : Int) = 9) := by
  unfold isBl
  have h32 : ((b.toNat : Int) = 32) ↔ b = 32 := byte_lit b 32
  have h9 : ((b.toNat : Int) = 9) ↔ b = 9 := byte_lit b 9
  rw [h32, h9]; simp
theorem get_list (s : ByteArray) (i : Nat) : s.get! i = s.data.toList.getD i 0 := by
  rw [ByteArray.get!, getElem!_def, List.getD_eq_getElem?_getD, Array.getElem?_toList]
  cases s.data[i]? <;> rfl
theorem bt_get (s : ByteArray) (i : Nat) (h : i < s.size) : bt s (i : Int) = ((s.get! i).toNat : Int) := by
  obtain ⟨b, l, hl⟩ : ∃ b l, s.data.toList.drop i = b :: l := by
    have h' : i < s.data.toList.length := by rw [← size_list]; exact h
    exact ⟨_, _, List.drop_eq_getElem_cons h'⟩
  obtain ⟨_, hb, _⟩ := at_cons hl
  have e : (s.data.toList.drop i)[0]? = some b := by rw [hl]; rfl
  rw [List.getElem?_drop, Nat.add_zero] at e
  rw [hb, get_list, List.getD_eq_getElem?_getD, e]
  rfl
/-- what is left of s between p and e, blanks and tabs at its end cut off -/
def cutN (s : ByteArray) (p : Nat) : Nat → Nat
  | 0 => p
  | n + 1 => if isBl (s.get! (p + n)) = true then cutN s p n else p + (n + 1)
theorem cutN_le (s : ByteArray) (p : Nat) : ∀ n, p ≤ cutN s p n ∧ cutN s p n ≤ p + n
  | 0 => ⟨Nat.le_refl _, Nat.le_refl _⟩
  | n + 1 => by
    rw [cutN]
    have := cutN_le s p n
    split <;> omega
theorem get_ext (s : ByteArray) (p e i : Nat) (h : p + i < e) (he : e ≤ s.size) : (s.extract p e).get! i = s.get! (p + i) := by
  rw [get_list, get_list, Lib.extract_data]
  rw [List.getD_eq_getElem?_getD, List.getD_eq_getElem?_getD, List.getElem?_take_of_lt (by omega), List.getElem?_drop]
theorem trim_ext (s : ByteArray) (p e : Nat) (he : e ≤ s.size) : ∀ n, p + n ≤ e → p + trimLen (s.extract p e) n = cutN s p n
  | 0, _ => rfl
  | n + 1, h => by
    rw [trimLen, cutN, get_ext s p e n (by omega) he]
    by_cases hb : isBl (s.get! (p + n)) = true
    · rw [if_pos hb, if_pos hb]; exact trim_ext s p e he n (by omega)
    · rw [if_neg hb, if_neg hb]
theorem ext_of_ext (s : ByteArray) (p e n : Nat) (hn : p + n ≤ e) (he : e ≤ s.size) : (s.extract p e).extract 0 n = s.extract p (p + n) := by
  apply ByteArray.ext
  apply Array.ext'
  rw [Lib.extract_data, Lib.extract_data, Lib.extract_data]
  rw [List.drop_zero, Nat.sub_zero, List.take_take, Nat.add_sub_cancel_left, Nat.min_eq_left (by omega)]
def wordOf (s : ByteArray) (a : Int) : ByteArray := s.extract (startN s a) (cutN s (startN s a) (endN s a - startN s a))

theorem trim_is (s : ByteArray) (p e : Nat) (hp : p ≤ e) (he : e ≤ s.size) (hs : s.size ≤ 140737488351232) :
    strings_TrimRight.f (s.extract p e) (⟨#[32, 9]⟩ : ByteArray) = some (s.extract p (cutN s p (e - p))) := by
  have hsz : (s.extract p e).size = e - p := by rw [ByteArray.size_extract]; omega
  have ht := trimLen_le (s.extract p e) (e - p)
  unfold strings_TrimRight.f
  rw [if_pos (by rw [hsz]; simp; omega), hsz, ext_of_ext s p e _ (by omega) he, trim_ext s p e he _ (by omega)]

theorem scan_Word_is (s : ByteArray) (hs : s.size ≤ 140737488351232) (a : Int) (k : Nat) (hk : s.size < k) :
    scan_Word.f k s a = some (wordOf s a, (endN s a : Int)) := by
  have hst := startN_le s a
  have hln := lineN_le s a
  have hlow : startN s a ≤ lineN s a := Nat.le_add_right _ _
  unfold scan_Word.f
  rw [scan_Line_is s hs a k hk, Option.bind_some]
  have hsz : (s.extract (startN s a) (lineN s a)).size = lineN s a - startN s a := by rw [ByteArray.size_extract]; omega
  have hdat : (s.extract (startN s a) (lineN s a)).data.toList = (s.data.toList.drop (startN s a)).take (upTo (· == 10) (s.data.toList.drop (startN s a))) := ext_take s _ _
  have hidx : strings_IndexByte.f (s.extract (startN s a) (lineN s a)) 59 = some (if endN s a < lineN s a then ((endN s a - startN s a : Nat) : Int) else -1) := by
    unfold strings_IndexByte.f
    rw [show (59 : Int).toNat.toUInt8 = 59 from rfl, index_is, ← size_list, hsz, hdat, upTo_two]
    have : endN s a = startN s a + upTo (fun b => b == 10 || b == 59) (s.data.toList.drop (startN s a)) := rfl
    congr 1
    by_cases h : endN s a < lineN s a
    · rw [if_pos (by omega), if_pos h]; omega
    · rw [if_neg (by omega), if_neg h]
  have hel : endN s a ≤ lineN s a := by
    have := upTo_take_le (· == 10) (· == 59) (s.data.toList.drop (startN s a))
    rw [upTo_two] at this
    unfold endN lineN; omega
  have hes : startN s a ≤ endN s a := Nat.le_add_right _ _
  dsimp only
  have hnum : endN s a < lineN s a → wrap64 ((lineN s a : Int) - wrap64 (((lineN s a - startN s a : Nat) : Int) - ((endN s a - startN s a : Nat) : Int))) = (endN s a : Int) := by
    intro h
    rw [wrap_id (x := ((lineN s a - startN s a : Nat) : Int) - ((endN s a - startN s a : Nat) : Int)) (by omega) (by omega), wrap_id (by omega) (by omega)]
    omega
  rw [hidx, Option.bind_some, wordOf]
  by_cases h : endN s a < lineN s a
  · rw [if_pos h, if_pos (by omega), if_pos (by omega), hsz, if_pos (by omega), Int.toNat_natCast, ext_of_ext s _ _ _ (by omega) hln,
      show startN s a + (endN s a - startN s a) = endN s a from by omega, trim_is s _ _ hes (by omega) hs, Option.bind_some, hnum h]
  · rw [if_neg h, if_neg (by omega)]
    have he : lineN s a = endN s a := by omega
    rw [trim_is s _ _ hlow hln hs, Option.bind_some, he]

theorem ref_Word_l1 (s : ByteArray) (hs : s.size ≤ 140737488351232) (p : Nat) (e : Int) : ∀ (n k : Nat), p + n ≤ s.size → n < k →
    runnelref17_Word.l1 k s (p : Int) e ((p + n : Nat) : Int) = some (s.extract p (cutN s p n), e)
  | 0, k, h, hk => by
    obtain ⟨k, rfl⟩ : ∃ m, k = m + 1 := ⟨k - 1, by omega⟩
    rw [runnelref17_Word.l1]
    rw [if_neg (by omega), if_pos (by omega), if_pos (by omega), if_pos (by omega)]
    rw [Int.toNat_natCast, Int.toNat_natCast]; rfl
  | n + 1, k, h, hk => by
    obtain ⟨k, rfl⟩ : ∃ m, k = m + 1 := ⟨k - 1, by omega⟩
    have ih := ref_Word_l1 s hs p e n k (by omega) (by omega)
    have hw : wrap64 (((p + (n + 1) : Nat) : Int) - 1) = ((p + n : Nat) : Int) := by rw [wrap_id (by omega) (by omega)]; omega
    rw [runnelref17_Word.l1]
    rw [if_pos (by omega), hw, if_pos (by omega), if_pos (by omega), bt_get s (p + n) (by omega), ih, cutN]
    by_cases hb : isBl (s.get! (p + n)) = true
    · rw [if_pos hb]
      rcases (isBl_num _).1 hb with h1 | h1
      · rw [if_pos h1]
      · rw [if_neg (by omega), if_pos h1]
    · rw [if_neg hb]
      have h2 : ¬ (((s.get! (p + n)).toNat : Int) = 32 ∨ ((s.get! (p + n)).toNat : Int) = 9) := fun h => hb ((isBl_num _).2 h)
      rw [if_neg (fun h => h2 (.inl h)), if_neg (fun h => h2 (.inr h)), if_pos (by omega), if_pos (by omega), if_pos (by omega)]
      rw [Int.toNat_natCast, Int.toNat_natCast]
theorem ref_Word_j1 (s : ByteArray) (hs : s.size ≤ 140737488351232) (p i k : Nat) (hp : p ≤ i) (hi : i ≤ s.size) (hk : i - p + 1 < k) :
    runnelref17_Word.j1 k s (p : Int) (i : Int) = some (s.extract p (cutN s p (i - p)), (i : Int)) := by
  obtain ⟨k, rfl⟩ : ∃ m, k = m + 1 := ⟨k - 1, by omega⟩
  rw [runnelref17_Word.j1]
  have := ref_Word_l1 s hs p (i : Int) (i - p) k (by omega) (by omega)
  rw [show p + (i - p) = i from by omega] at this
  exact this
theorem ref_Word_l0 (s : ByteArray) (hs : s.size ≤ 140737488351232) (p : Nat) (l : List UInt8) : ∀ (i k : Nat), s.data.toList.drop i = l → i ≤ s.size → p ≤ i → 2 * s.size + 3 < k + (i - p) →
    runnelref17_Word.l0 k s (p : Int) (i : Int) =
      some (s.extract p (cutN s p (i + upTo (fun b => b == 10 || b == 59) l - p)), ((i + upTo (fun b => b == 10 || b == 59) l : Nat) : Int)) := by
  induction l with
  | nil =>
    intro i k hl hi hf hk
    obtain ⟨k, rfl⟩ : ∃ m, k = m + 1 := ⟨k - 1, by omega⟩
    have := at_nil hl hi
    rw [runnelref17_Word.l0]
    rw [if_neg (by omega), ref_Word_j1 s hs p i k hf hi (by omega)]
    simp [upTo]
  | cons b l ih =>
    intro i k hl hi hf hk
    obtain ⟨k, rfl⟩ : ∃ m, k = m + 1 := ⟨k - 1, by omega⟩
    obtain ⟨hlt, hb, hd⟩ := at_cons hl
    rw [runnelref17_Word.l0]
    rw [if_pos (by omega), if_pos (by omega), hb, upTo]
    by_cases h : b = 10
    · subst h
      rw [if_pos (by decide), ref_Word_j1 s hs p i k hf hi (by omega)]
      simp
    · rw [if_neg (ne_num (x := 10) 10 rfl h)]
      by_cases h' : b = 59
      · subst h'
        rw [if_pos (by decide), ref_Word_j1 s hs p i k hf hi (by omega)]
        simp
      · rw [if_neg (ne_num (x := 59) 59 rfl h'), if_neg (by simp [h, h']), wrap_one (by omega)]
        rw [ih (i + 1) k hd (by omega) (by omega) (by omega)]
        rw [show i + 1 + upTo (fun b => b == 10 || b == 59) l = i + (upTo (fun b => b == 10 || b == 59) l + 1) from by omega]
theorem ref_Word_is (s : ByteArray) (hs : s.size ≤ 140737488351232) (a : Int) (k : Nat) (hk : 2 * s.size + 3 < k) :
    runnelref17_Word.f k s a = some (wordOf s a, (endN s a : Int)) := by
  unfold runnelref17_Word.f
  rw [ref_Blanks_is s (by omega) a k (by omega), Option.bind_some]
  exact ref_Word_l0 s hs (startN s a) _ (startN s a) k rfl (startN_le s a) (Nat.le_refl _) (by omega)

/-! ## Name -/
theorem ref_Name_l0 (s : ByteArray) (hs : s.size ≤ 140737488351232) (l : List UInt8) : ∀ (i k : Nat), s.data.toList.drop i = l → i ≤ s.size → l.length < k →
    runnelref17_Name.l0 k s (i : Int) = some (!(l.any fun b => b == 10 || b == 0)) := by
  induction l with
  | nil =>
    intro i k hl hi hk
    obtain ⟨k, rfl⟩ : ∃ m, k = m + 1 := ⟨k - 1, by simp at hk; omega⟩
    have := at_nil hl hi
    rw [runnelref17_Name.l0]
    rw [if_neg (by omega)]
    rfl
  | cons b l ih =>
    intro i k hl hi hk
    obtain ⟨k, rfl⟩ : ∃ m, k = m + 1 := ⟨k - 1, by simp at hk; omega⟩
    obtain ⟨hlt, hb, hd⟩ := at_cons hl
    rw [runnelref17_Name.l0]
    rw [if_pos (by omega), if_pos (by omega), hb]
    by_cases h : b = 10
    · subst h
      rw [if_pos (by decide)]; rfl
    · rw [if_neg (ne_num (x := 10) 10 rfl h)]
      by_cases h' : b = 0
      · subst h'
        rw [if_pos (by decide)]; rfl
      · rw [if_neg (ne_num (x := 0) 0 rfl h'), wrap_one (by omega), ih (i + 1) k hd (by omega) (by simp at hk; omega)]
        simp [h, h']
theorem ref_Name_is (s : ByteArray) (hs : s.size ≤ 140737488351232) (k : Nat) (hk : s.size + 1 < k) : runnelref17_Name.f k s = some (nameOK s.data.toList) := by
  obtain ⟨k, rfl⟩ : ∃ m, k = m + 1 := ⟨k - 1, by omega⟩
  have hl : s.data.toList.length = s.size := (size_list s).symm
  unfold runnelref17_Name.f nameOK
  by_cases h0 : (s.size : Int) < 1
  · rw [if_pos h0, runnelref17_Name.j0, if_pos rfl]
    have : s.data.toList = [] := List.length_eq_zero_iff.1 (by omega)
    rw [this]; rfl
  · rw [if_neg h0, runnelref17_Name.j0]
    have hne : s.data.toList.isEmpty = false := by
      cases hc : s.data.toList with
      | nil => rw [hc] at hl; simp at hl; omega
      | cons => rfl
    by_cases h64 : (s.size : Int) > 64
    · rw [if_pos (decide_eq_true h64), hne, decide_eq_false (by omega)]; rfl
    · rw [if_neg (by simp; omega)]
      have h := ref_Name_l0 s hs _ 0 k rfl (Nat.zero_le _) (by rw [length_drop]; omega)
      rw [show ((0 : Nat) : Int) = 0 from rfl] at h
      rw [h, hne, decide_eq_true (by omega), List.drop_zero]; rfl

theorem awakeW : runnellaw17_awake.f 40 = some true := by kernel_rfl

theorem ScanWords : runnellaw17_ScanWords.Pure := by
  intro s a hs _
  refine ⟨3 * s.size + 60, ?_⟩
  unfold runnellaw17_ScanWords.f
  rw [scan_Line_is s hs a _ (by omega), Option.bind_some, ref_Line_is s hs a _ (by omega), Option.bind_some]
  rw [scan_Word_is s hs a _ (by omega), Option.bind_some, ref_Word_is s hs a _ (by omega), Option.bind_some]
  rw [at_rounds (g := runnellaw17_awake.f) runnellaw17_awake.mono (show 40 ≤ 3 * s.size + 60 by omega) awakeW, Option.bind_some, if_pos rfl]
  rw [if_pos rfl, if_pos rfl, if_pos rfl, if_pos rfl]
  rw [show scan_Name.f s = some (nameOK s.data.toList) from rfl, Option.bind_some, ref_Name_is s hs _ (by omega), Option.bind_some]
  simp

end Go.Proofs.YtdlbmajilmmapaaDoor.Pure
