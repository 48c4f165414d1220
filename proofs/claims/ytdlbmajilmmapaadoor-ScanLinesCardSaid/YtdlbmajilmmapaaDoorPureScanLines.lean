/- Of layer 17 (scan): a text written with backslashes ahead of its line ends and backslashes is read back by Text; Line and Word answer pieces of the tail. No condition. -/
import Derived.Test.YtdlbmajilmmapaaDoorPureScanWords
import Derived.Test.YtdlbmajilmmapaaDoorF4
namespace Go.Proofs.YtdlbmajilmmapaaDoor.Pure
open Go.RowKit Go.Proofs.YtdlbmajilmmapaaDoor.F Go.Proofs.YtdlbmajilmmapaaDoorW.PrintWords Go.Proofs.YtdlbmajilmmapaaDoorW.PrintLast Go.Proofs.YtdlbmajilmmapaaDoorW.PrintMore
set_option linter.unusedVariables false

def escT : List UInt8 → List UInt8
  | [] => []
  | b :: l => if b = 10 ∨ b = 92 then 92 :: b :: escT l else b :: escT l
theorem escT_le (l : List UInt8) : l.length ≤ (escT l).length ∧ (escT l).length ≤ 2 * l.length := by
  induction l with
  | nil => exact ⟨Nat.le_refl _, Nat.le_refl _⟩
  | cons b l ih =>
    rw [escT]
    split <;> simp only [List.length_cons] <;> omega
def sp (n : Nat) : ByteArray := ⟨(List.replicate n 32).toArray⟩
theorem sp_list (n : Nat) : (sp n).data.toList = List.replicate n 32 := rfl
theorem sp_size (n : Nat) : (sp n).size = n := by rw [size_list, sp_list, List.length_replicate]
theorem ba_ext {x y : ByteArray} (h : x.data.toList = y.data.toList) : x = y := ByteArray.ext (Array.ext' h)
theorem sp_more (n : Nat) : sp n ++ (⟨#[32]⟩ : ByteArray) = sp (n + 1) := by
  apply ba_ext
  rw [append_data, sp_list, sp_list, List.replicate_succ']

theorem front_is (x0 x1 x8 : ByteArray) (n : Nat) (hn : n ≤ 3) : ∀ (m j k : Nat), j + m = n →
    runnellaw17_ScanLines.l0 (k + m + 1) x0 x1 (sp j) x8 (n : Int) (j : Int) = runnellaw17_ScanLines.l1 k x0 x1 (sp n) x8 0
  | 0, j, k, h => by
    obtain rfl : j = n := h
    rw [runnellaw17_ScanLines.l0, if_neg (by omega)]
  | m + 1, j, k, h => by
    rw [runnellaw17_ScanLines.l0, if_pos (by omega), if_pos (by rw [sp_size]; omega), sp_more]
    rw [show ((j : Int) + 1) % 256 = ((j + 1 : Nat) : Int) from by omega]
    exact front_is x0 x1 x8 n hn m (j + 1) k (by omega)

theorem put_is (x0 x1 x7 : ByteArray) (hs : x0.size ≤ 140737488351232) : ∀ (l : List UInt8) (i k : Nat) (x8 : ByteArray), x0.data.toList.drop i = l → i ≤ x0.size → x8.size + 2 * l.length ≤ 9007199254740992 →
    runnellaw17_ScanLines.l1 (k + l.length + 1) x0 x1 x7 x8 (i : Int) = runnellaw17_ScanLines.l1 (k + 1) x0 x1 x7 (x8 ++ ⟨(escT l).toArray⟩) (x0.size : Int)
  | [], i, k, x8, hl, hi, h8 => by
    have hx : x8 ++ ⟨(escT []).toArray⟩ = x8 := by apply ba_ext; rw [append_data]; simp [escT]
    rw [hx, at_nil hl hi]
    rfl
  | b :: l, i, k, x8, hl, hi, h8 => by
    obtain ⟨hlt, hb, hd⟩ := at_cons hl
    have hcut : (x0.extract i (i + 1)).data.toList = [b] := by rw [Lib.extract_data, hl, Nat.add_sub_cancel_left]; rfl
    have hcs : (x0.extract i (i + 1)).size = 1 := by rw [size_list, hcut]; rfl
    have h92 : (x8 ++ (⟨#[92]⟩ : ByteArray)).size = x8.size + 1 := by rw [append_size]; rfl
    rw [List.length_cons] at h8
    rw [show k + (b :: l).length + 1 = (k + l.length + 1) + 1 from by rw [List.length_cons]; omega]
    rw [runnellaw17_ScanLines.l1, if_pos (by omega), if_pos (by omega), hb, wrap_one (by omega)]
    rw [Int.toNat_natCast, Int.toNat_natCast, hcs, h92]
    by_cases e : b = 10 ∨ b = 92
    · have hrec := put_is x0 x1 x7 hs l (i + 1) k (x8 ++ (⟨#[92]⟩ : ByteArray) ++ x0.extract i (i + 1)) hd (by omega) (by rw [append_size, h92, hcs]; omega)
      have hx : x8 ++ (⟨#[92]⟩ : ByteArray) ++ x0.extract i (i + 1) ++ ⟨(escT l).toArray⟩ = x8 ++ ⟨(escT (b :: l)).toArray⟩ := by
        apply ba_ext
        rw [append_data, append_data, append_data, append_data, hcut, escT, if_pos e]
        simp
      rw [hx] at hrec
      rw [hrec]
      rcases e with e | e
      · rw [if_pos (eq_num (x := 10) 10 rfl e), if_pos (by omega), if_pos (by omega), if_pos (by omega), if_pos (by omega)]
      · rw [if_neg (ne_num (x := 10) 10 rfl (by rw [e]; decide)), if_pos (eq_num (x := 92) 92 rfl e), if_pos (by omega), if_pos (by omega), if_pos (by omega), if_pos (by omega)]
    · have hrec := put_is x0 x1 x7 hs l (i + 1) k (x8 ++ x0.extract i (i + 1)) hd (by omega) (by rw [append_size, hcs]; omega)
      have hx : x8 ++ x0.extract i (i + 1) ++ ⟨(escT l).toArray⟩ = x8 ++ ⟨(escT (b :: l)).toArray⟩ := by
        apply ba_ext
        rw [append_data, append_data, append_data, hcut, escT, if_neg e]
        simp
      rw [hx] at hrec
      rw [hrec, if_neg (ne_num (x := 10) 10 rfl (fun h => e (.inl h))), if_neg (ne_num (x := 92) 92 rfl (fun h => e (.inr h))), if_pos (by omega), if_pos (by omega), if_pos (by omega)]

/-! ## Text reads it back -/
theorem bts_put (acc : List UInt8) (b : UInt8) : bts acc ++ [(b.toNat : Int)] = bts (acc ++ [b]) := by rw [bts_append]; rfl
theorem read_is (s : ByteArray) (hs : s.size ≤ 9007199254740000) (at_ : Int) (tail : List UInt8) : ∀ (T : List UInt8) (i k : Nat) (acc : List UInt8), s.data.toList.drop i = escT T ++ 10 :: tail → acc.length + T.length ≤ 140737488351232 → T.length < k →
    scan_Text.l0 k s at_ (bts acc) (i : Int) = some (strOfNums (bts (acc ++ T ++ [10])), ((i + (escT T).length + 1 : Nat) : Int), 0)
  | [], i, k, acc, hl, ha, hk => by
    obtain ⟨k, rfl⟩ : ∃ m, k = m + 1 := ⟨k - 1, by simp at hk; omega⟩
    obtain ⟨hlt, hb, hd⟩ := at_cons (show s.data.toList.drop i = 10 :: tail from hl)
    rw [scan_Text.l0, if_pos (by omega), if_pos (by omega), hb, if_pos (by decide), if_pos (by rw [bts_length]; simp at ha; omega), wrap_one (by omega)]
    rw [show (10 : Int) = ((10 : UInt8).toNat : Int) from rfl, bts_put]
    simp [escT]
  | b :: T, i, k, acc, hl, ha, hk => by
    obtain ⟨k, rfl⟩ : ∃ m, k = m + 1 := ⟨k - 1, by simp at hk; omega⟩
    rw [List.length_cons] at ha hk
    have hacc : (bts acc).length < 140737488355328 := by rw [bts_length]; omega
    by_cases e : b = 10 ∨ b = 92
    · have hl' : s.data.toList.drop i = 92 :: b :: (escT T ++ 10 :: tail) := by rw [hl, escT, if_pos e]; rfl
      obtain ⟨hlt, hb, hd⟩ := at_cons hl'
      obtain ⟨hlt2, hc, hd2⟩ := at_cons hd
      rw [scan_Text.l0, if_pos (by omega), if_pos (by omega), hb, if_neg (by decide), if_pos (by decide), wrap_one (by omega), if_neg (by omega), if_pos (by omega), if_pos (by omega), if_pos hacc, hc, bts_put, wrap_one (by omega)]
      rw [read_is s hs at_ tail T (i + 1 + 1) k (acc ++ [b]) hd2 (by simp; omega) (by omega)]
      rw [escT, if_pos e]
      simp only [List.append_assoc, List.singleton_append, List.length_cons]
      rw [show i + 1 + 1 + (escT T).length + 1 = i + ((escT T).length + 1 + 1) + 1 from by omega]
    · have hl' : s.data.toList.drop i = b :: (escT T ++ 10 :: tail) := by rw [hl, escT, if_neg e]; rfl
      obtain ⟨hlt, hb, hd⟩ := at_cons hl'
      rw [scan_Text.l0, if_pos (by omega), if_pos (by omega), hb, if_neg (ne_num (x := 10) 10 rfl (fun h => e (.inl h))), if_neg (ne_num (x := 92) 92 rfl (fun h => e (.inr h))), if_pos hacc, bts_put, wrap_one (by omega)]
      rw [read_is s hs at_ tail T (i + 1) k (acc ++ [b]) hd (by simp; omega) (by omega)]
      rw [escT, if_neg e]
      simp only [List.append_assoc, List.singleton_append, List.length_cons]
      rw [show i + 1 + (escT T).length + 1 = i + ((escT T).length + 1) + 1 from by omega]

theorem blanks_front (n : Nat) (l : List UInt8) : blanksN (List.replicate n 32 ++ 92 :: l) = n := by
  induction n with
  | zero => rfl
  | succ n ih =>
    rw [List.replicate_succ, List.cons_append, blanksN, if_pos (by decide), ih]

/-- the whole text -/
def allT (n : Nat) (T tail : ByteArray) : ByteArray := sp n ++ (⟨#[92, 10]⟩ : ByteArray) ++ ⟨(escT T.data.toList).toArray⟩ ++ (⟨#[10]⟩ : ByteArray) ++ tail
theorem allT_list (n : Nat) (T tail : ByteArray) : (allT n T tail).data.toList = List.replicate n 32 ++ (92 :: 10 :: (escT T.data.toList ++ 10 :: tail.data.toList)) := by
  unfold allT
  rw [append_data, append_data, append_data, append_data, sp_list]
  simp
theorem allT_size (n : Nat) (T tail : ByteArray) : (allT n T tail).size = n + 2 + (escT T.data.toList).length + 1 + tail.size := by
  rw [size_list, allT_list]
  simp only [List.length_append, List.length_replicate, List.length_cons, ← size_list]
  omega
theorem text_is (n : Nat) (hn : n ≤ 3) (T tail : ByteArray) (hT : T.size ≤ 140737488351232) (ht : tail.size ≤ 140737488351232) (k : Nat) (hk : (allT n T tail).size + 2 < k) :
    scan_Text.f k (allT n T tail) 0 = some (strOfNums (bts (T.data.toList ++ [10])), ((n + 2 + (escT T.data.toList).length + 1 : Nat) : Int), 0) := by
  have hlen := size_list T
  have hesc := escT_le T.data.toList
  have hsz := allT_size n T tail
  have hlist := allT_list n T tail
  have hsm : (allT n T tail).size ≤ 9007199254740000 := by omega
  generalize allT n T tail = s at *
  unfold scan_Text.f
  rw [scan_Blanks_is s (by omega) 0 k (by omega), Option.bind_some]
  have h0 : insideN s 0 = 0 := by unfold insideN; rw [if_neg (by omega), if_neg (by omega)]; rfl
  rw [h0, List.drop_zero, hlist, blanks_front, Nat.zero_add, wrap_two (by omega), if_neg (by omega), if_pos (by omega), if_pos (by omega), if_pos (by omega)]
  have hdn : s.data.toList.drop n = 92 :: 10 :: (escT T.data.toList ++ 10 :: tail.data.toList) := by
    rw [hlist, List.drop_left' (List.length_replicate ..)]
  have hd2 : s.data.toList.drop (n + 2) = escT T.data.toList ++ 10 :: tail.data.toList := by
    rw [show n + 2 = n + 1 + 1 from rfl]
    exact (at_cons (at_cons hdn).2.2).2.2
  have hx : (s.extract (n : Int).toNat ((n + 2 : Nat) : Int).toNat).toList = [92, 10] := by
    rw [extract_toList, Int.toNat_natCast, Int.toNat_natCast, hdn, show n + 2 - n = 2 from by omega]
    rfl
  rw [hx]
  obtain ⟨k, rfl⟩ : ∃ m, k = m + 1 := ⟨k - 1, by omega⟩
  rw [scan_Text.j0, if_neg (by decide), wrap_two (by omega)]
  have := read_is s hsm (n : Int) tail.data.toList T.data.toList (n + 2) k [] hd2 (by simp; omega) (by omega)
  exact this

/-! ## the pieces of the tail -/
theorem upTo_hit (p : UInt8 → Bool) (l : List UInt8) (h : upTo p l < l.length) : ∃ b t, l.drop (upTo p l) = b :: t ∧ p b = true := by
  induction l with
  | nil => exact absurd h (by simp)
  | cons b l ih =>
    rw [upTo] at h ⊢
    by_cases hp : p b = true
    · rw [if_pos hp]; exact ⟨b, l, rfl, hp⟩
    · rw [if_neg hp] at h ⊢
      exact ih (by rw [List.length_cons] at h; omega)
theorem line_end (s : ByteArray) (a : Int) (h : lineN s a < s.size) : bt s (lineN s a : Int) = 10 := by
  have hu : upTo (· == 10) (s.data.toList.drop (startN s a)) < (s.data.toList.drop (startN s a)).length := by
    rw [length_drop]; unfold lineN at h; omega
  obtain ⟨b, t, hd, hp⟩ := upTo_hit _ _ hu
  rw [List.drop_drop] at hd
  obtain ⟨_, hb, _⟩ := at_cons hd
  have e : b = 10 := by simpa using hp
  subst e
  exact hb
theorem endN_le (s : ByteArray) (a : Int) : startN s a ≤ endN s a ∧ endN s a ≤ lineN s a := by
  refine ⟨Nat.le_add_right _ _, ?_⟩
  have := upTo_take_le (· == 10) (· == 59) (s.data.toList.drop (startN s a))
  rw [upTo_two] at this
  unfold endN lineN; omega
theorem rest_is (x1 : ByteArray) (hs : x1.size ≤ 140737488351232) (k : Nat) (hk : x1.size < k) : runnellaw17_ScanLines.j2 (k + 1) x1 false = some true := by
  have h1 := startN_le x1 0
  have h2 := lineN_le x1 0
  have h3 : startN x1 0 ≤ lineN x1 0 := Nat.le_add_right _ _
  have h4 := endN_le x1 0
  have h5 := cutN_le x1 (startN x1 0) (endN x1 0 - startN x1 0)
  have hw : (wordOf x1 0).size = cutN x1 (startN x1 0) (endN x1 0 - startN x1 0) - startN x1 0 := by
    unfold wordOf; rw [ByteArray.size_extract]; omega
  have hwl : (wordOf x1 0).toList = (x1.extract (startN x1 0) (startN x1 0 + (wordOf x1 0).size)).toList := by
    rw [hw, show startN x1 0 + (cutN x1 (startN x1 0) (endN x1 0 - startN x1 0) - startN x1 0) = cutN x1 (startN x1 0) (endN x1 0 - startN x1 0) from by omega]
    rfl
  have hsum : wrap64 ((startN x1 0 : Int) + ((wordOf x1 0).size : Int)) = ((startN x1 0 + (wordOf x1 0).size : Nat) : Int) := by rw [wrap_id (by omega) (by omega)]; omega
  have hdiff : wrap64 ((endN x1 0 : Int) - (startN x1 0 : Int)) = ((endN x1 0 - startN x1 0 : Nat) : Int) := by rw [wrap_id (by omega) (by omega)]; omega
  have hle := line_end x1 0
  rw [runnellaw17_ScanLines.j2, if_neg (by decide)]
  rw [scan_Line_is x1 hs 0 k hk, Option.bind_some, scan_Blanks_is x1 (by omega) 0 k hk, Option.bind_some, scan_Word_is x1 hs 0 k hk]
  rw [show insideN x1 0 + blanksN (x1.data.toList.drop (insideN x1 0)) = startN x1 0 from rfl]
  simp only [Option.bind_some]
  rw [hsum, hdiff]
  rw [if_neg (by omega), if_neg (by omega), if_neg (by omega), if_pos (by omega), if_pos (by omega), if_pos (by omega)]
  rw [Int.toNat_natCast, Int.toNat_natCast, Int.toNat_natCast, if_pos rfl, ← hwl]
  have hfin : (if (endN x1 0 : Int) ≤ (lineN x1 0 : Int) then (if ((wordOf x1 0).size : Int) ≤ ((endN x1 0 - startN x1 0 : Nat) : Int) then (if (startN x1 0 : Int) ≤ ((startN x1 0 + (wordOf x1 0).size : Nat) : Int) then (if ((startN x1 0 + (wordOf x1 0).size : Nat) : Int) ≤ (x1.size : Int) then some ((wordOf x1 0).toList == (wordOf x1 0).toList) else none) else none) else some false) else some false) = some true := by
    rw [if_pos (by omega), if_pos (by omega), if_pos (by omega), if_pos (by omega), beq_self_eq_true]
  rw [hfin]
  by_cases h : lineN x1 0 < x1.size
  · rw [if_pos (by omega), if_pos (by omega), if_pos (hle h)]
  · rw [if_neg (by omega)]

theorem ScanLines : runnellaw17_ScanLines.Pure := by
  intro T tail a2 hT ht w2
  have ha : 0 ≤ a2 ∧ a2 ≤ 255 := by
    obtain ⟨b, rfl⟩ := u8_of_wf w2
    exact byte_le b
  obtain ⟨n, hn, e⟩ : ∃ n : Nat, n ≤ 3 ∧ Int.tmod a2 4 = (n : Int) := ⟨(a2 % 4).toNat, by omega, by rw [Int.tmod_eq_emod_of_nonneg ha.1]; omega⟩
  have hlen := size_list T
  have hesc := escT_le T.data.toList
  have hsz := allT_size n T tail
  refine ⟨((allT n T tail).size + 60 + T.data.toList.length + 1) + n + 1, ?_⟩
  have haw := at_rounds (g := runnellaw17_awake.f) runnellaw17_awake.mono (show 40 ≤ ((allT n T tail).size + 60 + T.data.toList.length + 1) + n + 1 by omega) awakeW
  unfold runnellaw17_ScanLines.f
  rw [haw, Option.bind_some, if_pos rfl, e]
  have h0 := front_is T tail (⟨#[]⟩ : ByteArray) n hn n 0 ((allT n T tail).size + 60 + T.data.toList.length + 1) (by omega)
  rw [show ((0 : Nat) : Int) = 0 from rfl, show sp 0 = (⟨#[]⟩ : ByteArray) from rfl] at h0
  rw [h0]
  have h1 := put_is T tail (sp n) hT T.data.toList 0 ((allT n T tail).size + 60) (⟨#[]⟩ : ByteArray) rfl (Nat.zero_le _) (by rw [← hlen]; show 0 + _ ≤ _; omega)
  rw [show ((0 : Nat) : Int) = 0 from rfl, show (⟨#[]⟩ : ByteArray) ++ ⟨(escT T.data.toList).toArray⟩ = ⟨(escT T.data.toList).toArray⟩ from by apply ba_ext; rw [append_data]; rfl] at h1
  rw [h1]
  have hall : sp n ++ (⟨#[92, 10]⟩ : ByteArray) ++ ⟨(escT T.data.toList).toArray⟩ ++ (⟨#[10]⟩ : ByteArray) ++ tail = allT n T tail := rfl
  have e8 : (⟨(escT T.data.toList).toArray⟩ : ByteArray).size = (escT T.data.toList).length := by rw [size_list]
  have e2 : (⟨#[92, 10]⟩ : ByteArray).size = 2 := rfl
  have e1 : (⟨#[10]⟩ : ByteArray).size = 1 := rfl
  rw [runnellaw17_ScanLines.l1, if_neg (Int.lt_irrefl _)]
  rw [append_size, append_size, append_size, append_size, sp_size, e8, e2, e1]
  rw [hall, text_is n hn T tail hT ht _ (by omega), Option.bind_some]
  dsimp only
  rw [append_size, append_size, sp_size, e8, e2]
  rw [if_pos (by omega), if_pos (by omega), if_pos (by omega), if_pos (by omega), if_pos rfl, if_pos (by omega)]
  rw [if_pos (by rw [toList_strOf, Lib.toList_data, append_data]), wrap_id (by omega) (by omega)]
  have hne : (((n + 2 + (escT T.data.toList).length + 1 : Nat) : Int) != ((allT n T tail).size : Int) - (tail.size : Int)) = false := by
    rw [bne_eq_false_iff_eq]; omega
  rw [hne]
  exact rest_is tail ht ((allT n T tail).size + 59) (by omega)

end Go.Proofs.YtdlbmajilmmapaaDoor.Pure
