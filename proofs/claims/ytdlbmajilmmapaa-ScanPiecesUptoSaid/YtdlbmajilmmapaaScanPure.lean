/- What the functions of scan (and of its reference) answer, in plain words on lists of bytes. -/
import Derived.Test.YtdlbmajilmmapaaBytes
import Derived.Test.YtdlbmajilmmapaaF10
import Derived.Test.YtdlbmajilmmapaaF11
import Derived.Test.YtdlbmajilmmapaaF13
namespace Go.Proofs.Ytdlbmajilmmapaa.F
open Go.RowKit Go.Proofs.YtdlbmajilmmapaaW.PrintWords Go.Proofs.YtdlbmajilmmapaaW.PrintLast Go.Proofs.YtdlbmajilmmapaaW.PrintMore

/-! ## inside, Blanks -/
def insideN (s : ByteArray) (at_ : Int) : Nat := if at_ < 0 then 0 else if (s.size : Int) < at_ then s.size else at_.toNat
theorem insideN_le (s : ByteArray) (a : Int) : insideN s a ≤ s.size := by unfold insideN; (repeat' split) <;> omega
theorem scan_inside_is (s : ByteArray) (a : Int) : scan_inside.f s a = some (insideN s a : Int) := by
  unfold scan_inside.f insideN mn mx
  congr 1
  (repeat' split) <;> omega
theorem ref_inside_is (s : ByteArray) (a : Int) : runnelref17_inside.f s a = some (insideN s a : Int) := by
  unfold runnelref17_inside.f insideN
  (repeat' split) <;> first | rfl | (congr 1; omega) | omega

def blankB (b : UInt8) : Bool := b == 32 || b == 9
def blanksN : List UInt8 → Nat
  | [] => 0
  | b :: l => if blankB b then blanksN l + 1 else 0
theorem blanksN_le (l : List UInt8) : blanksN l ≤ l.length := by
  induction l with
  | nil => exact Nat.le_refl _
  | cons b l ih => unfold blanksN; split <;> simp <;> omega
theorem scan_blank_is (b : UInt8) : scan_blank.f (b.toNat : Int) = some (blankB b) := by
  unfold scan_blank.f blankB
  have h32 : ((b.toNat : Int) = 32) ↔ b = 32 := byte_lit b 32
  have h9 : ((b.toNat : Int) = 9) ↔ b = 9 := byte_lit b 9
  by_cases h : b = 32
  · rw [if_pos (h32.2 h)]; subst h; rfl
  · rw [if_neg (fun e => h (h32.1 e))]
    congr 1
    rw [Bool.eq_iff_iff]
    simp [h, h9]
theorem scan_Blanks_l0 (s : ByteArray) (hs : s.size ≤ 140737488351232) (l : List UInt8) : ∀ (i k : Nat), s.data.toList.drop i = l → i ≤ s.size → l.length < k →
    scan_Blanks.l0 k s (i : Int) = some ((i + blanksN l : Nat) : Int) := by
  induction l with
  | nil =>
    intro i k hl hi hk
    obtain ⟨k, rfl⟩ : ∃ m, k = m + 1 := ⟨k - 1, by simp at hk; omega⟩
    have := at_nil hl hi
    simp only [scan_Blanks.l0]
    rw [if_neg (by omega)]
    simp [blanksN]
  | cons b l ih =>
    intro i k hl hi hk
    obtain ⟨k, rfl⟩ : ∃ m, k = m + 1 := ⟨k - 1, by simp at hk; omega⟩
    obtain ⟨hlt, hb, hd⟩ := at_cons hl
    simp only [scan_Blanks.l0]
    rw [if_pos (by omega), if_pos (by omega), hb, scan_blank_is]
    simp only [Option.bind_some]
    unfold blanksN
    by_cases h : blankB b = true
    · rw [if_pos h, if_pos h, wrap_id (by omega) (by omega)]
      have := ih (i + 1) k hd (by omega) (by simp at hk; omega)
      rw [show ((i : Int) + 1) = ((i + 1 : Nat) : Int) from by omega, this]
      congr 1; omega
    · rw [if_neg h, if_neg h]
      rfl
theorem scan_Blanks_is (s : ByteArray) (hs : s.size ≤ 140737488351232) (a : Int) (k : Nat) (hk : s.size < k) :
    scan_Blanks.f k s a = some ((insideN s a + blanksN (s.data.toList.drop (insideN s a)) : Nat) : Int) := by
  unfold scan_Blanks.f
  rw [scan_inside_is]
  simp only [Option.bind_some]
  exact scan_Blanks_l0 s hs _ _ k rfl (insideN_le s a) (by rw [length_drop]; omega)
theorem ref_Blanks_l0 (s : ByteArray) (hs : s.size ≤ 140737488351232) (l : List UInt8) : ∀ (i k : Nat), s.data.toList.drop i = l → i ≤ s.size → l.length < k →
    runnelref17_Blanks.l0 k s (i : Int) = some ((i + blanksN l : Nat) : Int) := by
  induction l with
  | nil =>
    intro i k hl hi hk
    obtain ⟨k, rfl⟩ : ∃ m, k = m + 1 := ⟨k - 1, by simp at hk; omega⟩
    have := at_nil hl hi
    simp only [runnelref17_Blanks.l0]
    rw [if_neg (by omega)]
    simp [blanksN, this]
  | cons b l ih =>
    intro i k hl hi hk
    obtain ⟨k, rfl⟩ : ∃ m, k = m + 1 := ⟨k - 1, by simp at hk; omega⟩
    obtain ⟨hlt, hb, hd⟩ := at_cons hl
    simp only [runnelref17_Blanks.l0]
    rw [if_pos (by omega), if_pos (by omega), hb]
    have h32 : ((b.toNat : Int) = 32) ↔ b = 32 := byte_lit b 32
    have h9 : ((b.toNat : Int) = 9) ↔ b = 9 := byte_lit b 9
    have := ih (i + 1) k hd (by omega) (by simp at hk; omega)
    rw [wrap_id (by omega) (by omega), show ((i : Int) + 1) = ((i + 1 : Nat) : Int) from by omega, this]
    by_cases h : b = 32
    · have hB : blanksN (b :: l) = blanksN l + 1 := by rw [blanksN, if_pos (by simp [blankB, h])]
      rw [if_pos (h32.2 h), hB]; congr 1; omega
    · rw [if_neg (fun e => h (h32.1 e))]
      by_cases h' : b = 9
      · have hB : blanksN (b :: l) = blanksN l + 1 := by rw [blanksN, if_pos (by simp [blankB, h'])]
        rw [if_pos (h9.2 h'), hB]; congr 1; omega
      · have hB : blanksN (b :: l) = 0 := by rw [blanksN, if_neg (by simp [blankB, h, h'])]
        rw [if_neg (fun e => h' (h9.1 e)), hB]; rfl
theorem ref_Blanks_is (s : ByteArray) (hs : s.size ≤ 140737488351232) (a : Int) (k : Nat) (hk : s.size < k) :
    runnelref17_Blanks.f k s a = some ((insideN s a + blanksN (s.data.toList.drop (insideN s a)) : Nat) : Int) := by
  unfold runnelref17_Blanks.f
  rw [ref_inside_is]
  simp only [Option.bind_some]
  exact ref_Blanks_l0 s hs _ _ k rfl (insideN_le s a) (by rw [length_drop]; omega)

/-! ## Number -/
def digitB (b : UInt8) : Bool := decide (48 ≤ b.toNat) && decide (b.toNat ≤ 57)
def digitsN : List UInt8 → Nat
  | [] => 0
  | b :: l => if digitB b then digitsN l + 1 else 0
theorem digitsN_le (l : List UInt8) : digitsN l ≤ l.length := by
  induction l with
  | nil => exact Nat.le_refl _
  | cons b l ih => unfold digitsN; split <;> simp <;> omega
/-- the value of the first n bytes as digits, behind v -/
def valN : Nat → Int → List UInt8 → Int
  | 0, v, _ => v
  | _ + 1, v, [] => v
  | n + 1, v, b :: l => valN n (10 * v + ((b.toNat : Int) - 48)) l
def numberN (i : Nat) (l : List UInt8) : Int × Int × Int :=
  if digitsN l = 0 then (0, 0, 5) else if 9 < digitsN l then (0, 0, 1) else (valN (digitsN l) 0 l, ((i + digitsN l : Nat) : Int), 0)

theorem digit_parts (b : UInt8) : digitB b = true ↔ 48 ≤ (b.toNat : Int) ∧ (b.toNat : Int) ≤ 57 := by
  unfold digitB; simp; omega

/-- scan.Number's loop: m digits lie behind it, v is the value of the first nine. -/
theorem scan_Number_l0 (s : ByteArray) (hs : s.size ≤ 140737488351232) (l : List UInt8) : ∀ (i m k : Nat) (v : Int), s.data.toList.drop i = l → i ≤ s.size → m ≤ i → 0 ≤ v → v < 10 ^ (min m 9) → 2 * l.length + 1 < k →
    scan_Number.l0 k s ((i - m : Nat) : Int) (i : Int) v =
      some (if m + digitsN l = 0 then (0, 0, 5) else if 9 < m + digitsN l then (0, 0, 1) else (valN (digitsN l) v l, ((i + digitsN l : Nat) : Int), 0)) := by
  induction l with
  | nil =>
    intro i m k v hl hi hm h0 h1 hk
    obtain ⟨k, rfl⟩ : ∃ m, k = m + 2 := ⟨k - 2, by simp at hk; omega⟩
    have := at_nil hl hi
    simp only [scan_Number.l0]
    rw [if_neg (by omega)]
    simp only [scan_Number.j1]
    rw [if_neg (by simp), wrap_id (by omega) (by omega)]
    simp only [digitsN, valN, Nat.add_zero]
    by_cases hz : m = 0
    · rw [if_pos (by omega), if_pos hz]
    · rw [if_neg (by omega), if_neg hz]
      by_cases h9 : 9 < m
      · rw [if_pos (by omega), if_pos h9]
      · rw [if_neg (by omega), if_neg h9]
  | cons b l ih =>
    intro i m k v hl hi hm h0 h1 hk
    obtain ⟨k, rfl⟩ : ∃ m, k = m + 2 := ⟨k - 2, by simp at hk; omega⟩
    obtain ⟨hlt, hb, hd⟩ := at_cons hl
    have hby := byte_le b
    simp only [scan_Number.l0]
    rw [if_pos (by omega), if_pos (by omega), hb]
    have hfin : ∀ kk : Nat, digitB b = false → scan_Number.j1 (kk + 1) s ((i - m : Nat) : Int) (i : Int) v false = some (if m + digitsN (b :: l) = 0 then (0, 0, 5) else if 9 < m + digitsN (b :: l) then (0, 0, 1) else (valN (digitsN (b :: l)) v (b :: l), ((i + digitsN (b :: l) : Nat) : Int), 0)) := by
      intro kk hno
      simp only [scan_Number.j1]
      rw [if_neg (by simp), wrap_id (by omega) (by omega)]
      have hz0 : digitsN (b :: l) = 0 := by unfold digitsN; rw [if_neg (by simp [hno])]
      rw [hz0]
      simp only [valN, Nat.add_zero]
      by_cases hz : m = 0
      · rw [if_pos (by omega), if_pos hz]
      · rw [if_neg (by omega), if_neg hz]
        by_cases h9 : 9 < m
        · rw [if_pos (by omega), if_pos h9]
        · rw [if_neg (by omega), if_neg h9]
    by_cases hdg : digitB b = true
    · have hp := (digit_parts b).1 hdg
      rw [if_pos (by omega)]
      have hdec : decide ((b.toNat : Int) ≤ 57) = true := decide_eq_true hp.2
      rw [hdec]
      simp only [scan_Number.j1]
      rw [if_pos trivial, wrap_id (by omega) (by omega)]
      have hdn : digitsN (b :: l) = digitsN l + 1 := by rw [digitsN, if_pos hdg]
      rw [hdn]
      have hgo := ih (i + 1) (m + 1) k
      have e1 : ((i + 1 - (m + 1) : Nat) : Int) = ((i - m : Nat) : Int) := by congr 1; omega
      rw [e1] at hgo
      rw [wrap_id (x := (i : Int) + 1) (by omega) (by omega), show ((i : Int) + 1) = ((i + 1 : Nat) : Int) from by omega]
      by_cases h9 : m < 9
      · rw [if_pos (by omega), if_pos (by omega), if_pos (by omega), hb]
        have hpow : (10 : Int) ^ (min m 9) = 10 ^ m := by rw [Nat.min_eq_left (by omega)]
        have hpow' : (10 : Int) ^ (min (m + 1) 9) = 10 * 10 ^ m := by rw [Nat.min_eq_left (by omega), Int.pow_succ, Int.mul_comm]
        have hle : (10 : Int) ^ m ≤ 10 ^ 8 := by
          have : m = 0 ∨ m = 1 ∨ m = 2 ∨ m = 3 ∨ m = 4 ∨ m = 5 ∨ m = 6 ∨ m = 7 ∨ m = 8 := by omega
          rcases this with h | h | h | h | h | h | h | h | h <;> subst h <;> decide
        rw [hpow] at h1
        have hmod : ((b.toNat : Int) - 48) % 256 = (b.toNat : Int) - 48 := by omega
        have h8 : (10 : Int) ^ 8 = 100000000 := by decide
        rw [h8] at hle
        rw [hmod, wrap_id (x := 10 * v) (by omega) (by omega), wrap_id (x := 10 * v + ((b.toNat : Int) - 48)) (by omega) (by omega)]
        rw [hgo _ hd (by omega) (by omega) (by omega) (by rw [hpow']; omega) (by simp at hk; omega)]
        rw [show m + 1 + digitsN l = m + (digitsN l + 1) from by omega]
        simp only [valN]
        rw [show i + 1 + digitsN l = i + (digitsN l + 1) from by omega]
      · rw [if_neg (by omega)]
        rw [hgo v hd (by omega) (by omega) h0 (by rw [Nat.min_eq_right (by omega)] at h1 ⊢; exact h1) (by simp at hk; omega)]
        rw [if_neg (by omega), if_pos (by omega), if_neg (by omega), if_pos (by omega)]
    · have hno : digitB b = false := by simpa using hdg
      by_cases h48 : (b.toNat : Int) ≥ 48
      · rw [if_pos h48]
        have hdec : decide ((b.toNat : Int) ≤ 57) = false := by
          apply decide_eq_false
          intro hle
          exact hdg ((digit_parts b).2 ⟨by omega, hle⟩)
        rw [hdec]
        exact hfin _ hno
      · rw [if_neg h48]
        exact hfin _ hno
theorem scan_Number_is (s : ByteArray) (hs : s.size ≤ 140737488351232) (a : Int) (k : Nat) (hk : 2 * s.size + 1 < k) :
    scan_Number.f k s a = some (numberN (insideN s a) (s.data.toList.drop (insideN s a))) := by
  unfold scan_Number.f
  rw [scan_inside_is]
  simp only [Option.bind_some]
  have h := scan_Number_l0 s hs _ (insideN s a) 0 k 0 rfl (insideN_le s a) (Nat.zero_le _) (Int.le_refl _) (by decide) (by rw [length_drop]; omega)
  rw [show insideN s a - 0 = insideN s a from rfl] at h
  rw [h]
  simp only [numberN, Nat.zero_add]

theorem ref_Number_l1 (s : ByteArray) (hs : s.size ≤ 140737488351232) (l : List UInt8) : ∀ (i n m k : Nat) (v : Int), s.data.toList.drop i = l → i ≤ s.size → n = digitsN l → n ≤ m → m ≤ 9 → 0 ≤ v → v < 10 ^ (9 - n) → n < k →
    runnelref17_DocNumber.l1 k s ((i + n : Nat) : Int) v (i : Int) = some (valN n v l, ((i + n : Nat) : Int), 0) := by
  induction l with
  | nil =>
    intro i n m k v hl hi hn hm h9 h0 h1 hk
    obtain ⟨k, rfl⟩ : ∃ m, k = m + 1 := ⟨k - 1, by omega⟩
    simp only [digitsN] at hn
    subst hn
    simp only [runnelref17_DocNumber.l1]
    rw [if_neg (by omega)]
    rfl
  | cons b l ih =>
    intro i n m k v hl hi hn hm h9 h0 h1 hk
    obtain ⟨k, rfl⟩ : ∃ m, k = m + 1 := ⟨k - 1, by omega⟩
    obtain ⟨hlt, hb, hd⟩ := at_cons hl
    have hby := byte_le b
    simp only [runnelref17_DocNumber.l1]
    cases n with
    | zero => rw [if_neg (by omega)]; rfl
    | succ n =>
      have hdg : digitB b = true := by
        rw [digitsN] at hn
        by_cases h : digitB b = true
        · exact h
        · rw [if_neg h] at hn; omega
      have hdn : n = digitsN l := by rw [digitsN, if_pos hdg] at hn; omega
      have hp := (digit_parts b).1 hdg
      rw [if_pos (by omega), if_pos (by omega), if_pos (by omega), hb]
      have hn8 : n ≤ 8 := by omega
      have hle : (10 : Int) ^ (9 - (n + 1)) ≤ 100000000 ∧ (10 : Int) ^ (9 - n) = 10 * 10 ^ (9 - (n + 1)) := by
        have : n = 0 ∨ n = 1 ∨ n = 2 ∨ n = 3 ∨ n = 4 ∨ n = 5 ∨ n = 6 ∨ n = 7 ∨ n = 8 := by omega
        rcases this with h | h | h | h | h | h | h | h | h <;> subst h <;> decide
      rw [wrap_id (x := 10 * v) (by omega) (by omega), wrap_id (x := (b.toNat : Int)) (by omega) (by omega), wrap_id (x := 10 * v + (b.toNat : Int)) (by omega) (by omega), wrap_id (x := 10 * v + (b.toNat : Int) - 48) (by omega) (by omega), wrap_id (x := (i : Int) + 1) (by omega) (by omega)]
      have hgo := ih (i + 1) n m k (10 * v + ((b.toNat : Int) - 48)) hd (by omega) hdn (by omega) h9 (by omega) (by omega) (by omega)
      rw [show 10 * v + (b.toNat : Int) - 48 = 10 * v + ((b.toNat : Int) - 48) from by omega, show ((i : Int) + 1) = ((i + 1 : Nat) : Int) from by omega, show i + (n + 1) = i + 1 + n from by omega]
      rw [hgo]
      rfl
theorem ref_Number_l0 (s : ByteArray) (hs : s.size ≤ 140737488351232) (from_ : Nat) (l0 : List UInt8) (h0 : s.data.toList.drop from_ = l0) (l : List UInt8) : ∀ (i k : Nat), s.data.toList.drop i = l → i ≤ s.size → from_ ≤ i → from_ + digitsN l0 = i + digitsN l → l.length + 12 < k →
    runnelref17_DocNumber.l0 k s (from_ : Int) (i : Int) = some (numberN from_ l0) := by
  have hfin : ∀ k i : Nat, 11 < k → i ≤ s.size → from_ + digitsN l0 = i → runnelref17_DocNumber.j1 k s (from_ : Int) (i : Int) = some (numberN from_ l0) := by
    intro k i hk hi he
    obtain ⟨k, rfl⟩ : ∃ m, k = m + 1 := ⟨k - 1, by omega⟩
    simp only [runnelref17_DocNumber.j1]
    unfold numberN
    by_cases hz : digitsN l0 = 0
    · rw [if_pos (by omega), if_pos hz]
    · rw [if_neg (by omega), if_neg hz, wrap_id (by omega) (by omega)]
      by_cases h9 : 9 < digitsN l0
      · rw [if_pos (by omega), if_pos h9]
      · rw [if_neg (by omega), if_neg h9]
        have := ref_Number_l1 s hs l0 from_ (digitsN l0) 9 k 0 h0 (by omega) rfl (by omega) (Nat.le_refl _) (Int.le_refl _) (Int.pow_pos (by decide)) (by omega)
        rw [he] at this
        rw [this, he]
  induction l with
  | nil =>
    intro i k hl hi hf he hk
    obtain ⟨k, rfl⟩ : ∃ m, k = m + 1 := ⟨k - 1, by omega⟩
    have := at_nil hl hi
    simp only [runnelref17_DocNumber.l0]
    rw [if_neg (by omega)]
    have hz : digitsN ([] : List UInt8) = 0 := rfl
    exact hfin _ _ (by simp at hk; omega) hi (by rw [he, hz]; rfl)
  | cons b l ih =>
    intro i k hl hi hf he hk
    obtain ⟨k, rfl⟩ : ∃ m, k = m + 1 := ⟨k - 1, by omega⟩
    obtain ⟨hlt, hb, hd⟩ := at_cons hl
    simp only [runnelref17_DocNumber.l0]
    rw [if_pos (by omega), if_pos (by omega), hb]
    simp only [List.length_cons] at hk
    by_cases hdg : digitB b = true
    · have hp := (digit_parts b).1 hdg
      rw [if_pos (by omega), if_pos (by omega), wrap_id (by omega) (by omega), show ((i : Int) + 1) = ((i + 1 : Nat) : Int) from by omega]
      exact ih (i + 1) k hd (by omega) (by omega) (by rw [digitsN, if_pos hdg] at he; omega) (by omega)
    · have hz : digitsN (b :: l) = 0 := by rw [digitsN, if_neg hdg]
      by_cases h48 : (b.toNat : Int) ≥ 48
      · rw [if_pos h48, if_neg (fun hle => hdg ((digit_parts b).2 ⟨by omega, hle⟩))]
        exact hfin _ _ (by omega) hi (by omega)
      · rw [if_neg h48]
        exact hfin _ _ (by omega) hi (by omega)
theorem ref_Number_is (s : ByteArray) (hs : s.size ≤ 140737488351232) (a : Int) (k : Nat) (hk : s.size + 12 < k) :
    runnelref17_DocNumber.f k s a = some (numberN (insideN s a) (s.data.toList.drop (insideN s a))) := by
  unfold runnelref17_DocNumber.f
  rw [ref_inside_is]
  simp only [Option.bind_some]
  exact ref_Number_l0 s hs (insideN s a) _ rfl _ (insideN s a) k rfl (insideN_le s a) (Nat.le_refl _) rfl (by rw [length_drop]; omega)

end Go.Proofs.Ytdlbmajilmmapaa.F
