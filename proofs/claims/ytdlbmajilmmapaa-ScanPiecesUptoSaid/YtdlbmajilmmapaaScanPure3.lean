/- What Until answers, in plain words on lists of bytes; scan's calls with known answers answer so. -/
import Derived.Test.YtdlbmajilmmapaaScanPure2
namespace Go.Proofs.Ytdlbmajilmmapaa.F
open Go.RowKit Go.Proofs.YtdlbmajilmmapaaW.PrintWords Go.Proofs.YtdlbmajilmmapaaW.PrintLast Go.Proofs.YtdlbmajilmmapaaW.PrintMore

theorem awake17 : runnellaw17_awake.f 40 = some true := by kernel_rfl

/-! ## Until -/
def keepsB (d : UInt8) : Bool := d == 46 || d == 91 || d == 42 || d == 94 || d == 36 || d == 38
theorem scan_keeps_is (d : UInt8) : scan_keeps.f (d.toNat : Int) = some (keepsB d) := by
  have h : ∀ d : UInt8, decide (Lib.indexByte [46, 91, 42, 94, 36, 38] d ≥ 0) = keepsB d := by
    intro d
    unfold keepsB
    rw [Bool.eq_iff_iff]
    simp only [Lib.indexByte]
    by_cases h1 : d = 46
    · subst h1; decide
    by_cases h2 : d = 91
    · subst h2; decide
    by_cases h3 : d = 42
    · subst h3; decide
    by_cases h4 : d = 94
    · subst h4; decide
    by_cases h5 : d = 36
    · subst h5; decide
    by_cases h6 : d = 38
    · subst h6; decide
    have e1 : ((46 : UInt8) == d) = false := by simpa using fun e => h1 e.symm
    have e2 : ((91 : UInt8) == d) = false := by simpa using fun e => h2 e.symm
    have e3 : ((42 : UInt8) == d) = false := by simpa using fun e => h3 e.symm
    have e4 : ((94 : UInt8) == d) = false := by simpa using fun e => h4 e.symm
    have e5 : ((36 : UInt8) == d) = false := by simpa using fun e => h5 e.symm
    have e6 : ((38 : UInt8) == d) = false := by simpa using fun e => h6 e.symm
    simp [e1, e2, e3, e4, e5, e6, h1, h2, h3, h4, h5, h6]
  unfold scan_keeps.f strings_IndexByte.f
  rw [Option.bind_some]
  rw [show (d.toNat : Int).toNat.toUInt8 = d from by simp]
  rw [h d]

/-- what a byte behind a backslash gives -/
def escL (d c : UInt8) : List UInt8 := if c = d ∧ keepsB d = false then [c] else [92, c]
def untilL (d : UInt8) (lines : Bool) : List UInt8 → Option (List UInt8 × Nat)
  | [] => none
  | [b] => if b = d then some ([], 1) else none
  | b :: c :: t =>
    if b = d then some ([], 1) else if b = 10 then none
    else if b = 92 then (if c = 10 ∧ lines = false then none else (untilL d lines t).map (fun p => (escL d c ++ p.1, p.2 + 2)))
    else (untilL d lines (c :: t)).map (fun p => (b :: p.1, p.2 + 1))
def untilR (d : UInt8) (lines : Bool) (acc : List UInt8) (i : Nat) (l : List UInt8) : ByteArray × Int × Int :=
  match untilL d lines l with
  | none => (⟨#[]⟩, 0, 6)
  | some p => (strOfNums (bts (acc ++ p.1)), ((i + p.2 : Nat) : Int), 0)
theorem escL_length (d c : UInt8) : (escL d c).length ≤ 2 := by unfold escL; split <;> simp

theorem untilR_last (d : UInt8) (lines : Bool) (acc : List UInt8) (i : Nat) (b : UInt8) (h : b ≠ d) : untilR d lines acc i [b] = (⟨#[]⟩, 0, 6) := by
  simp [untilR, untilL, h]
theorem untilR_hit (d : UInt8) (lines : Bool) (acc : List UInt8) (i : Nat) (l : List UInt8) : untilR d lines acc i (d :: l) = (strOfNums (bts acc), ((i + 1 : Nat) : Int), 0) := by
  cases l <;> simp [untilR, untilL]
theorem untilR_line (d : UInt8) (lines : Bool) (acc : List UInt8) (i : Nat) (l : List UInt8) (h : (10 : UInt8) ≠ d) : untilR d lines acc i (10 :: l) = (⟨#[]⟩, 0, 6) := by
  cases l <;> simp [untilR, untilL, h]
theorem untilR_step (d : UInt8) (lines : Bool) (acc : List UInt8) (i : Nat) (b : UInt8) (l : List UInt8) (h : b ≠ d) (h10 : b ≠ 10) (h92 : b ≠ 92) :
    untilR d lines acc i (b :: l) = untilR d lines (acc ++ [b]) (i + 1) l := by
  cases l with
  | nil => simp [untilR, untilL, h]
  | cons c t =>
    simp only [untilR]
    rw [show untilL d lines (b :: c :: t) = (untilL d lines (c :: t)).map (fun p => (b :: p.1, p.2 + 1)) from by rw [untilL, if_neg h, if_neg h10, if_neg h92]]
    cases untilL d lines (c :: t) with
    | none => rfl
    | some p => simp [List.append_assoc]; omega
theorem untilR_cut (d : UInt8) (acc : List UInt8) (i : Nat) (l : List UInt8) (h : (92 : UInt8) ≠ d) : untilR d false acc i (92 :: 10 :: l) = (⟨#[]⟩, 0, 6) := by
  simp [untilR, untilL, h]
theorem untilR_esc (d : UInt8) (lines : Bool) (acc : List UInt8) (i : Nat) (c : UInt8) (l : List UInt8) (h : (92 : UInt8) ≠ d) (hc : ¬ (c = 10 ∧ lines = false)) :
    untilR d lines acc i (92 :: c :: l) = untilR d lines (acc ++ escL d c) (i + 2) l := by
  simp only [untilR]
  rw [show untilL d lines (92 :: c :: l) = (untilL d lines l).map (fun p => (escL d c ++ p.1, p.2 + 2)) from by rw [untilL, if_neg h, if_neg (by decide), if_pos rfl, if_neg hc]]
  cases untilL d lines l with
  | none => rfl
  | some p => simp [List.append_assoc]; omega

theorem scan_Until_l0 (s : ByteArray) (hs : s.size ≤ 140737488351232) (d : UInt8) (hd : d ≠ 92) (lines : Bool) : ∀ (l : List UInt8) (i k : Nat) (acc : List UInt8), s.data.toList.drop i = l → i ≤ s.size → acc.length ≤ i → 2 * l.length + 1 < k →
    scan_Until.l0 k s (d.toNat : Int) lines (bts acc) (i : Int) = some (untilR d lines acc i l)
  | [], i, k, acc, hl, hi, ha, hk => by
    obtain ⟨k, rfl⟩ : ∃ m, k = m + 1 := ⟨k - 1, by simp at hk; omega⟩
    have := at_nil hl hi
    simp only [scan_Until.l0]
    rw [if_neg (by omega)]
    rfl
  | b :: l, i, k, acc, hl, hi, ha, hk => by
    obtain ⟨k, rfl⟩ : ∃ m, k = m + 2 := ⟨k - 2, by simp at hk; omega⟩
    obtain ⟨hlt, hb, hdr⟩ := at_cons hl
    rw [scan_Until.l0]
    rw [if_pos (by omega), if_pos (by omega), hb, wrap_one (by omega)]
    simp only [List.length_cons] at hk
    by_cases e : b = d
    · subst e
      rw [if_pos rfl, untilR_hit]
    rw [if_neg (fun h => e ((byte_lit b d).1 h))]
    by_cases e10 : b = 10
    · subst e10
      rw [if_pos (by decide), untilR_line _ _ _ _ _ e]
    rw [if_neg (ne_num (x := 10) 10 rfl e10)]
    by_cases e92 : b = 92
    · subst e92
      rw [if_pos (by decide)]
      clear hb
      cases l with
      | nil =>
        have hend := at_nil hdr (by omega)
        rw [if_pos (by omega)]
        simp only [scan_Until.j2]
        rw [if_pos trivial, untilR_last _ _ _ _ _ e]
      | cons c t =>
        obtain ⟨hlt2, hc, hdr2⟩ := at_cons hdr
        simp only [List.length_cons] at hk
        rw [if_neg (by omega), if_pos (by omega), if_pos (by omega), hc]
        have hgo : scan_Until.j2 (k + 1) s (d.toNat : Int) lines (bts acc) ((i + 1 : Nat) : Int) false = some (untilR d lines (acc ++ escL d c) (i + 2) t) := by
          simp only [scan_Until.j2]
          rw [if_neg (by simp), if_pos (by omega), if_pos (by omega), hc, wrap_one' (by omega)]
          have hlen : (bts acc).length < 140737488355328 := by rw [bts_length]; omega
          have hlen2 : (bts (acc ++ [92])).length < 140737488355328 := by rw [bts_length]; simp; omega
          have h92 : bts acc ++ [92] = bts (acc ++ [92]) := bts_snoc acc 92
          have hesc : ∀ kk, escL d c = [92, c] → 2 * t.length + 1 < kk → scan_Until.l0 kk s (d.toNat : Int) lines (bts (acc ++ [92]) ++ [(c.toNat : Int)]) ((i + 2 : Nat) : Int) = some (untilR d lines (acc ++ escL d c) (i + 2) t) := by
            intro kk he hkk
            rw [bts_snoc, he, scan_Until_l0 s hs d hd lines t (i + 2) kk (acc ++ [92] ++ [c]) hdr2 (by omega) (by simp; omega) hkk, List.append_assoc]
            rfl
          by_cases ec : c = d
          · subst ec
            rw [if_pos rfl, scan_keeps_is]
            rw [Option.bind_some]
            by_cases hk2 : keepsB c = true
            · rw [if_pos hk2, if_pos hlen, h92, Option.bind_some, if_pos hlen2]
              exact hesc k (by rw [escL, if_neg (by simp [hk2])]) (by omega)
            · have hkf : keepsB c = false := by simpa using hk2
              rw [if_neg hk2, if_pos hlen, bts_snoc]
              rw [scan_Until_l0 s hs c hd lines t (i + 2) k (acc ++ [c]) hdr2 (by omega) (by simp; omega) (by omega), escL, if_pos ⟨rfl, hkf⟩]
          · rw [if_neg (fun h => ec ((byte_lit c d).1 h)), if_pos hlen]
            rw [Option.bind_some]
            rw [h92, if_pos hlen2]
            exact hesc k (by rw [escL, if_neg (fun h => ec h.1)]) (by omega)
        by_cases ec10 : c = 10
        · subst ec10
          rw [if_pos (by decide)]
          clear hc
          cases lines with
          | false =>
            simp only [Bool.not_false]
            simp only [scan_Until.j2]
            rw [if_pos trivial, untilR_cut _ _ _ _ e]
          | true => rw [show (!true) = false from rfl, hgo, untilR_esc _ _ _ _ _ _ e (by simp)]
        · rw [if_neg (ne_num (x := 10) 10 rfl ec10), hgo, untilR_esc _ _ _ _ _ _ e (fun h => ec10 h.1)]
    · rw [if_neg (ne_num (x := 92) 92 rfl e92), if_pos (by rw [bts_length]; omega), bts_snoc]
      rw [scan_Until_l0 s hs d hd lines l (i + 1) (k + 1) (acc ++ [b]) hdr (by omega) (by simp; omega) (by omega), untilR_step _ _ _ _ _ _ e e10 e92]

/-- what Until answers -/
def untilA (s : ByteArray) (a : Int) (d : UInt8) (lines : Bool) : ByteArray × Int × Int :=
  if a < 0 ∨ (s.size : Int) < a ∨ d = 10 ∨ d = 92 then (⟨#[]⟩, 0, 1) else untilR d lines [] a.toNat (s.data.toList.drop a.toNat)

theorem scan_Until_is (s : ByteArray) (hs : s.size ≤ 140737488351232) (a : Int) (d : UInt8) (lines : Bool) (k : Nat) (hk : 2 * s.size + 3 < k) :
    scan_Until.f k s a (d.toNat : Int) lines = some (untilA s a d lines) := by
  obtain ⟨k, rfl⟩ : ∃ m, k = m + 1 := ⟨k - 1, by omega⟩
  unfold scan_Until.f untilA
  have hT : scan_Until.j0 (k + 1) s a (d.toNat : Int) lines true = some (⟨#[]⟩, 0, 1) := by simp only [scan_Until.j0]; rw [if_pos trivial]
  rw [hT]
  by_cases h0 : a < 0
  · rw [if_pos h0, if_pos (.inl h0)]
  rw [if_neg h0]
  by_cases h1 : a > (s.size : Int)
  · rw [if_pos h1, if_pos (.inr (.inl h1))]
  rw [if_neg h1]
  by_cases h2 : d = 10
  · rw [if_pos (eq_num (x := 10) 10 rfl h2), if_pos (.inr (.inr (.inl h2)))]
  rw [if_neg (ne_num (x := 10) 10 rfl h2)]
  by_cases h3 : d = 92
  · rw [if_pos (.inr (.inr (.inr h3)))]
    subst h3
    exact hT
  have h3' : ((d.toNat : Int) == 92) = false := by
    apply beq_eq_false_iff_ne.2
    exact fun e => h3 ((byte_lit d 92).1 e)
  rw [h3', if_neg (by rintro (h | h | h | h) <;> first | omega | exact h2 h | exact h3 h)]
  simp only [scan_Until.j0]
  rw [if_neg (by simp)]
  have := scan_Until_l0 s hs d h3 lines _ a.toNat k [] rfl (by omega) (by simp) (by rw [length_drop]; omega)
  rw [show ((a.toNat : Nat) : Int) = a from by omega] at this
  exact this

theorem ref_Until_l0 (s : ByteArray) (hs : s.size ≤ 140737488351232) (d : UInt8) (hd : d ≠ 92) (lines : Bool) : ∀ (l : List UInt8) (i k : Nat) (acc : List UInt8), s.data.toList.drop i = l → i ≤ s.size → acc.length ≤ i → 2 * l.length + 1 < k →
    runnelref17_DocUntil.l0 k s (d.toNat : Int) lines (bts acc) (i : Int) = some (untilR d lines acc i l)
  | [], i, k, acc, hl, hi, ha, hk => by
    obtain ⟨k, rfl⟩ : ∃ m, k = m + 1 := ⟨k - 1, by simp at hk; omega⟩
    have := at_nil hl hi
    simp only [runnelref17_DocUntil.l0]
    rw [if_neg (by omega)]
    rfl
  | b :: l, i, k, acc, hl, hi, ha, hk => by
    obtain ⟨k, rfl⟩ : ∃ m, k = m + 2 := ⟨k - 2, by simp at hk; omega⟩
    obtain ⟨hlt, hb, hdr⟩ := at_cons hl
    rw [runnelref17_DocUntil.l0]
    rw [if_pos (by omega), if_pos (by omega), hb, wrap_one (by omega)]
    simp only [List.length_cons] at hk
    by_cases e : b = d
    · subst e
      rw [if_pos rfl, untilR_hit]
    rw [if_neg (fun h => e ((byte_lit b d).1 h))]
    by_cases e10 : b = 10
    · subst e10
      rw [if_pos (by decide), untilR_line _ _ _ _ _ e]
    rw [if_neg (ne_num (x := 10) 10 rfl e10)]
    by_cases e92 : b = 92
    · subst e92
      rw [if_pos (by decide)]
      clear hb
      cases l with
      | nil =>
        have hend := at_nil hdr (by omega)
        rw [if_pos (by omega)]
        simp only [runnelref17_DocUntil.j2]
        rw [if_pos trivial, untilR_last _ _ _ _ _ e]
      | cons c t =>
        obtain ⟨hlt2, hc, hdr2⟩ := at_cons hdr
        simp only [List.length_cons] at hk
        rw [if_neg (by omega), if_pos (by omega), if_pos (by omega), hc]
        have hgo : runnelref17_DocUntil.j2 (k + 1) s (d.toNat : Int) lines (bts acc) (i : Int) (((92 : UInt8).toNat : Nat) : Int) false = some (untilR d lines (acc ++ escL d c) (i + 2) t) := by
          simp only [runnelref17_DocUntil.j2]
          rw [wrap_one (by omega), if_neg (by simp), if_pos (by omega), if_pos (by omega), hc, wrap_two (by omega)]
          have hlen : (bts acc).length < 140737488355328 := by rw [bts_length]; omega
          have hlen2 : (bts (acc ++ [92])).length < 140737488355328 := by rw [bts_length]; simp; omega
          have h92 : bts acc ++ [(((92 : UInt8).toNat : Nat) : Int)] = bts (acc ++ [92]) := bts_snoc acc 92
          have hesc : escL d c = [92, c] → runnelref17_DocUntil.l0 k s (d.toNat : Int) lines (bts (acc ++ [92]) ++ [(c.toNat : Int)]) ((i + 2 : Nat) : Int) = some (untilR d lines (acc ++ escL d c) (i + 2) t) := by
            intro he
            rw [bts_snoc, he, ref_Until_l0 s hs d hd lines t (i + 2) k (acc ++ [92] ++ [c]) hdr2 (by omega) (by simp; omega) (by omega), List.append_assoc]
            rfl
          rw [Option.bind_some]
          rw [h92]
          simp only [if_pos hlen, if_pos hlen2]
          by_cases ec : c = d
          · subst ec
            rw [if_pos rfl]
            by_cases k1 : c = 46
            · rw [if_pos (eq_num (x := 46) 46 rfl k1)]; exact hesc (by rw [escL, if_neg (by subst k1; simp [keepsB])])
            rw [if_neg (ne_num (x := 46) 46 rfl k1)]
            by_cases k2 : c = 91
            · rw [if_pos (eq_num (x := 91) 91 rfl k2)]; exact hesc (by rw [escL, if_neg (by subst k2; simp [keepsB])])
            rw [if_neg (ne_num (x := 91) 91 rfl k2)]
            by_cases k3 : c = 42
            · rw [if_pos (eq_num (x := 42) 42 rfl k3)]; exact hesc (by rw [escL, if_neg (by subst k3; simp [keepsB])])
            rw [if_neg (ne_num (x := 42) 42 rfl k3)]
            by_cases k4 : c = 94
            · rw [if_pos (eq_num (x := 94) 94 rfl k4)]; exact hesc (by rw [escL, if_neg (by subst k4; simp [keepsB])])
            rw [if_neg (ne_num (x := 94) 94 rfl k4)]
            by_cases k5 : c = 36
            · rw [if_pos (eq_num (x := 36) 36 rfl k5)]; exact hesc (by rw [escL, if_neg (by subst k5; simp [keepsB])])
            rw [if_neg (ne_num (x := 36) 36 rfl k5)]
            by_cases k6 : c = 38
            · rw [if_pos (eq_num (x := 38) 38 rfl k6)]; exact hesc (by rw [escL, if_neg (by subst k6; simp [keepsB])])
            rw [if_neg (ne_num (x := 38) 38 rfl k6), bts_snoc]
            rw [ref_Until_l0 s hs c hd lines t (i + 2) k (acc ++ [c]) hdr2 (by omega) (by simp; omega) (by omega), escL, if_pos ⟨rfl, by simp [keepsB, k1, k2, k3, k4, k5, k6]⟩]
          · rw [if_neg (fun h => ec ((byte_lit c d).1 h))]
            exact hesc (by rw [escL, if_neg (fun h => ec h.1)])
        by_cases ec10 : c = 10
        · subst ec10
          rw [if_pos (by decide)]
          clear hc
          cases lines with
          | false =>
            simp only [Bool.not_false]
            simp only [runnelref17_DocUntil.j2]
            rw [if_pos trivial, untilR_cut _ _ _ _ e]
          | true => rw [show (!true) = false from rfl, hgo, untilR_esc _ _ _ _ _ _ e (by simp)]
        · rw [if_neg (ne_num (x := 10) 10 rfl ec10), hgo, untilR_esc _ _ _ _ _ _ e (fun h => ec10 h.1)]
    · rw [if_neg (ne_num (x := 92) 92 rfl e92), if_pos (by rw [bts_length]; omega), bts_snoc]
      rw [ref_Until_l0 s hs d hd lines l (i + 1) (k + 1) (acc ++ [b]) hdr (by omega) (by simp; omega) (by omega), untilR_step _ _ _ _ _ _ e e10 e92]

theorem ref_Until_is (s : ByteArray) (hs : s.size ≤ 140737488351232) (a : Int) (d : UInt8) (lines : Bool) (k : Nat) (hk : 2 * s.size + 3 < k) :
    runnelref17_DocUntil.f k s a (d.toNat : Int) lines = some (untilA s a d lines) := by
  obtain ⟨k, rfl⟩ : ∃ m, k = m + 1 := ⟨k - 1, by omega⟩
  unfold runnelref17_DocUntil.f untilA
  have hT : runnelref17_DocUntil.j0 (k + 1) s a (d.toNat : Int) lines true = some (⟨#[]⟩, 0, 1) := by simp only [runnelref17_DocUntil.j0]; rw [if_pos trivial]
  rw [hT]
  by_cases h0 : a < 0
  · rw [if_pos h0, if_pos (.inl h0)]
  rw [if_neg h0]
  by_cases h1 : a > (s.size : Int)
  · rw [if_pos h1, if_pos (.inr (.inl h1))]
  rw [if_neg h1]
  by_cases h2 : d = 10
  · rw [if_pos (eq_num (x := 10) 10 rfl h2), if_pos (.inr (.inr (.inl h2)))]
  rw [if_neg (ne_num (x := 10) 10 rfl h2)]
  by_cases h3 : d = 92
  · rw [if_pos (.inr (.inr (.inr h3)))]
    subst h3
    exact hT
  have h3' : ((d.toNat : Int) == 92) = false := by
    apply beq_eq_false_iff_ne.2
    exact fun e => h3 ((byte_lit d 92).1 e)
  rw [h3', if_neg (by rintro (h | h | h | h) <;> first | omega | exact h2 h | exact h3 h)]
  simp only [runnelref17_DocUntil.j0]
  rw [if_neg (by simp)]
  have := ref_Until_l0 s hs d h3 lines _ a.toNat k [] rfl (by omega) (by simp) (by rw [length_drop]; omega)
  rw [show ((a.toNat : Nat) : Int) = a from by omega] at this
  exact this

end Go.Proofs.Ytdlbmajilmmapaa.F
