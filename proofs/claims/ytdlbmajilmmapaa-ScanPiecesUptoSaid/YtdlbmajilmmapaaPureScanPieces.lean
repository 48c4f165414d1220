/- Of layer 17 (scan), the plain part of ScanPieces: texts of at most 2^20 bytes each. -/
import Derived.Test.YtdlbmajilmmapaaScanPure3
import Derived.Test.YtdlbmajilmmapaaF12
namespace Go.Proofs.Ytdlbmajilmmapaa.Pure
open Go.RowKit Go.Proofs.Ytdlbmajilmmapaa.F Go.Proofs.YtdlbmajilmmapaaW.PrintWords Go.Proofs.YtdlbmajilmmapaaW.PrintLast

theorem ba_ext {a b : ByteArray} (h : a.data.toList = b.data.toList) : a = b := by
  cases a; cases b
  simp only at h
  congr 1
  exact Array.toList_inj.1 h

def skipB (b : UInt8) : Bool := b == 10 || b == 92
def plainL (d : UInt8) : List UInt8 → List UInt8
  | [] => []
  | b :: l => if skipB b = true then plainL d l else if b = d then plainL d l else b :: plainL d l
def markedL : List UInt8 → List UInt8
  | [] => []
  | b :: l => if skipB b = true then markedL l else 92 :: b :: markedL l
def wantL (d : UInt8) : List UInt8 → List UInt8
  | [] => []
  | b :: l => if skipB b = true then wantL d l else escL d b ++ wantL d l
theorem plainL_length (d : UInt8) (l : List UInt8) : (plainL d l).length ≤ l.length := by
  induction l with
  | nil => exact Nat.le_refl _
  | cons b l ih => unfold plainL; (repeat' split) <;> simp <;> omega
theorem markedL_length (l : List UInt8) : (markedL l).length ≤ 2 * l.length := by
  induction l with
  | nil => exact Nat.le_refl _
  | cons b l ih => unfold markedL; split <;> simp <;> omega
theorem wantL_length (d : UInt8) (l : List UInt8) : (wantL d l).length ≤ 2 * l.length := by
  induction l with
  | nil => exact Nat.le_refl _
  | cons b l ih => have := escL_length d b; unfold wantL; split <;> simp <;> omega

theorem untilR_plain (d : UInt8) (lines : Bool) (l t : List UInt8) : ∀ (acc : List UInt8) (i : Nat), untilR d lines acc i (plainL d l ++ d :: t) = (strOfNums (bts (acc ++ plainL d l)), ((i + (plainL d l).length + 1 : Nat) : Int), 0) := by
  induction l with
  | nil =>
    intro acc i
    rw [plainL, List.nil_append, untilR_hit, List.append_nil]
    rfl
  | cons b l ih =>
    intro acc i
    unfold plainL
    by_cases h : skipB b = true
    · rw [if_pos h]; exact ih acc i
    · rw [if_neg h]
      by_cases e : b = d
      · rw [if_pos e]; exact ih acc i
      · rw [if_neg e, List.cons_append, untilR_step _ _ _ _ _ _ e (by intro h'; apply h; simp [skipB, h']) (by intro h'; apply h; simp [skipB, h']), ih, List.append_assoc, List.length_cons]
        congr 2
        congr 1
        omega
theorem untilR_marked (d : UInt8) (hd : (92 : UInt8) ≠ d) (l t : List UInt8) : ∀ (acc : List UInt8) (i : Nat), untilR d true acc i (markedL l ++ d :: t) = (strOfNums (bts (acc ++ wantL d l)), ((i + (markedL l).length + 1 : Nat) : Int), 0) := by
  induction l with
  | nil =>
    intro acc i
    rw [markedL, List.nil_append, untilR_hit, wantL, List.append_nil]
    rfl
  | cons b l ih =>
    intro acc i
    unfold markedL wantL
    by_cases h : skipB b = true
    · rw [if_pos h, if_pos h]; exact ih acc i
    · rw [if_neg h, if_neg h, List.cons_append, List.cons_append, untilR_esc _ _ _ _ _ _ hd (by simp), ih, List.append_assoc, List.length_cons, List.length_cons]
      congr 2
      congr 1
      omega

theorem until_at (s : ByteArray) (front : ByteArray) (l : List UInt8) (d : UInt8) (lines : Bool) (hd : d ≠ 10) (hd2 : d ≠ 92) (h : s.data.toList = front.data.toList ++ l) :
    untilA s (front.size : Int) d lines = untilR d lines [] front.size l := by
  unfold untilA
  have hsz : s.size = front.size + l.length := by rw [size_list, h, List.length_append, ← size_list]
  rw [if_neg (by rintro (h | h | h | h) <;> first | omega | exact hd h | exact hd2 h)]
  rw [show ((front.size : Int)).toNat = front.size from by omega, h]
  rw [List.drop_left' (by rw [← size_list])]

theorem wrap_sum {a b : Nat} (h : a + b ≤ 9007199254740992) : wrap64 (wrap64 ((a : Int) + (b : Int)) + 1) = ((a + b + 1 : Nat) : Int) := by
  rw [F.wrap_id (x := (a : Int) + (b : Int)) (by omega) (by omega), F.wrap_id (by omega) (by omega)]; omega

theorem Pieces_end (k : Nat) (a0 a1 a2 : ByteArray) (d : UInt8) (hd : d ≠ 10) (hd2 : d ≠ 92) (h0 : a0.size ≤ 1048576) (h1 : a1.size ≤ 1048576) (h2 : a2.size ≤ 1048576) (x9 P M W : ByteArray) (i : Nat)
    (h9 : x9.data.toList = [d]) (hP : P.data.toList = plainL d a1.data.toList) (hM : M.data.toList = markedL a1.data.toList) (hW : W.data.toList = wantL d a1.data.toList) (hi : i = a1.size) (hk : 10000000 < k) :
    runnellaw17_ScanPieces.l0 (k + 1) a0 a1 a2 (d.toNat : Int) x9 P M W (i : Int) = some true := by
  have hPl : P.size ≤ a1.size := by rw [size_list P, hP, size_list a1]; exact plainL_length d _
  have hMl : M.size ≤ 2 * a1.size := by rw [size_list M, hM, size_list a1]; exact markedL_length _
  have h9l : x9.size = 1 := by rw [size_list, h9]; rfl
  have e1 : (a0 ++ P ++ x9 ++ a2).data.toList = a0.data.toList ++ (plainL d a1.data.toList ++ d :: a2.data.toList) := by
    rw [append_data, append_data, append_data, hP, h9]; simp
  have e2 : (a0 ++ M ++ x9 ++ a2).data.toList = a0.data.toList ++ (markedL a1.data.toList ++ d :: a2.data.toList) := by
    rw [append_data, append_data, append_data, hM, h9]; simp
  have s1 : (a0 ++ P ++ x9 ++ a2).size ≤ 140737488351232 := by simp only [append_size]; omega
  have s2 : (a0 ++ M ++ x9 ++ a2).size ≤ 140737488351232 := by simp only [append_size]; omega
  have u1 := scan_Until_is (a0 ++ P ++ x9 ++ a2) s1 (a0.size : Int) d false k (by simp only [append_size]; omega)
  have u2 := scan_Until_is (a0 ++ M ++ x9 ++ a2) s2 (a0.size : Int) d true k (by simp only [append_size]; omega)
  rw [until_at _ a0 _ d false hd hd2 e1, untilR_plain, List.nil_append] at u1
  rw [until_at _ a0 _ d true hd hd2 e2, untilR_marked d (fun e => hd2 e.symm), List.nil_append] at u2
  rw [runnellaw17_ScanPieces.l0, if_neg (by omega)]
  rw [if_pos (by omega), if_pos (by simp only [append_size]; omega), if_pos (by simp only [append_size]; omega), u1, Option.bind_some]
  rw [if_pos (by omega), if_pos (by simp only [append_size]; omega), if_pos (by simp only [append_size]; omega), u2, Option.bind_some]
  rw [if_pos rfl, if_pos rfl, if_pos (by rw [toList_strOf, Lib.toList_data, hP])]
  have l1 : (plainL d a1.data.toList).length = P.size := by rw [size_list P, hP]
  have l2 : (markedL a1.data.toList).length = M.size := by rw [size_list M, hM]
  have b1 : a0.size + P.size ≤ 9007199254740992 := by omega
  have b2 : a0.size + M.size ≤ 9007199254740992 := by omega
  rw [l1, l2, wrap_sum b1, wrap_sum b2, if_pos rfl, if_pos (by rw [toList_strOf, Lib.toList_data, hW])]
  simp

theorem extract_one {s : ByteArray} {i : Nat} {b : UInt8} {l : List UInt8} (h : s.data.toList.drop i = b :: l) : (s.extract i (i + 1)).data.toList = [b] := by
  rw [Lib.extract_data, h, show i + 1 - i = 1 from by omega]; rfl

theorem Pieces_loop (a0 a1 a2 : ByteArray) (d : UInt8) (hd : d ≠ 10) (hd2 : d ≠ 92) (h0 : a0.size ≤ 1048576) (h1 : a1.size ≤ 1048576) (h2 : a2.size ≤ 1048576) (x9 : ByteArray) (h9 : x9.data.toList = [d]) (l : List UInt8) :
    ∀ (i k : Nat) (P M W : ByteArray), a1.data.toList.drop i = l → i ≤ a1.size → P.data.toList ++ plainL d l = plainL d a1.data.toList → M.data.toList ++ markedL l = markedL a1.data.toList → W.data.toList ++ wantL d l = wantL d a1.data.toList →
      2 * l.length + 10000001 < k → runnellaw17_ScanPieces.l0 k a0 a1 a2 (d.toNat : Int) x9 P M W (i : Int) = some true := by
  induction l with
  | nil =>
    intro i k P M W hl hi hP hM hW hk
    obtain ⟨k, rfl⟩ : ∃ m, k = m + 1 := ⟨k - 1, by omega⟩
    simp only [plainL, markedL, wantL, List.append_nil] at hP hM hW
    exact Pieces_end k a0 a1 a2 d hd hd2 h0 h1 h2 x9 P M W i h9 hP hM hW (at_nil hl hi) (by simp at hk; omega)
  | cons b l ih =>
    intro i k P M W hl hi hP hM hW hk
    obtain ⟨k, rfl⟩ : ∃ m, k = m + 2 := ⟨k - 2, by omega⟩
    obtain ⟨hlt, hb, hdr⟩ := at_cons hl
    have hx := extract_one hl
    simp only [List.length_cons] at hk
    have hPl : P.size ≤ a1.size := by
      have := plainL_length d a1.data.toList
      rw [← hP, List.length_append, ← size_list, ← size_list] at this; omega
    have hMl : M.size ≤ 2 * a1.size := by
      have := markedL_length a1.data.toList
      rw [← hM, List.length_append, ← size_list, ← size_list] at this; omega
    have hWl : W.size ≤ 2 * a1.size := by
      have := wantL_length d a1.data.toList
      rw [← hW, List.length_append, ← size_list, ← size_list] at this; omega
    rw [runnellaw17_ScanPieces.l0, F.wrap_one (by omega), if_pos (by omega), if_pos (by omega), if_pos (by omega), if_pos (by omega), hb]
    rw [show (i : Int).toNat = i from by omega, show (((i + 1 : Nat) : Int)).toNat = i + 1 from by omega]
    generalize hX : a1.extract i (i + 1) = X at hx
    have hXs : X.size = 1 := by rw [size_list, hx]; rfl
    have hskip : skipB b = true → runnellaw17_ScanPieces.j2 (k + 1) a0 a1 a2 (d.toNat : Int) x9 P M W (i : Int) X true = some true := by
      intro hs
      rw [runnellaw17_ScanPieces.j2, if_pos rfl, F.wrap_one (by omega)]
      rw [plainL, if_pos hs] at hP
      rw [markedL, if_pos hs] at hM
      rw [wantL, if_pos hs] at hW
      exact ih (i + 1) k P M W hdr (by omega) hP hM hW (by omega)
    have hgo : skipB b = false → runnellaw17_ScanPieces.j2 (k + 1) a0 a1 a2 (d.toNat : Int) x9 P M W (i : Int) X false = some true := by
      intro hs
      have hs' : ¬ skipB b = true := by rw [hs]; simp
      rw [plainL, if_neg hs'] at hP
      rw [markedL, if_neg hs'] at hM
      rw [wantL, if_neg hs'] at hW
      have hM' : (M ++ ((⟨#[92]⟩ : ByteArray) ++ X)).data.toList ++ markedL l = markedL a1.data.toList := by
        rw [← hM, append_data, append_data, hx]; simp
      have hW2 : (W ++ ((⟨#[92]⟩ : ByteArray) ++ X)).data.toList = W.data.toList ++ [92, b] := by rw [append_data, append_data, hx]; rfl
      have hW1 : (W ++ X).data.toList = W.data.toList ++ [b] := by rw [append_data, hx]
      have hfin : ∀ P' W' : ByteArray, P'.data.toList ++ plainL d l = plainL d a1.data.toList → W'.data.toList ++ wantL d l = wantL d a1.data.toList →
          runnellaw17_ScanPieces.l0 k a0 a1 a2 (d.toNat : Int) x9 P' (M ++ ((⟨#[92]⟩ : ByteArray) ++ X)) W' ((i + 1 : Nat) : Int) = some true :=
        fun P' W' hP' hW' => ih (i + 1) k P' _ W' hdr (by omega) hP' hM' hW' (by omega)
      rw [runnellaw17_ScanPieces.j2, if_neg (by simp), F.wrap_one (by omega)]
      have z1 : ((⟨#[92]⟩ : ByteArray) ++ X).size = 2 := by rw [append_size, hXs]; rfl
      rw [if_pos (by omega), if_pos (by omega)]
      by_cases e : b = d
      · have he : X.toList = x9.toList := by rw [Lib.toList_data, Lib.toList_data, hx, h9, e]
        rw [if_pos he]
        rw [if_pos e] at hP
        have hsp : keepsB d = true → W.data.toList ++ [92, b] ++ wantL d l = wantL d a1.data.toList := by
          intro hk'; rw [← hW, escL, if_neg (by simp [hk']), List.append_assoc]
        have hkeep : keepsB d = true → ∀ Z : Option Bool, (if W.size + ((⟨#[92]⟩ : ByteArray) ++ X).size ≤ 9223372036854775807 then runnellaw17_ScanPieces.l0 k a0 a1 a2 (d.toNat : Int) x9 P (M ++ ((⟨#[92]⟩ : ByteArray) ++ X)) (W ++ ((⟨#[92]⟩ : ByteArray) ++ X)) ((i + 1 : Nat) : Int) else Z) = some true := by
          intro hk' Z
          rw [if_pos (by omega)]
          exact hfin P _ hP (by rw [hW2]; exact hsp hk')
        by_cases k1 : d = 46
        · rw [if_pos (eq_num (x := 46) 46 rfl k1)]; exact hkeep (by subst k1; rfl) _
        rw [if_neg (ne_num (x := 46) 46 rfl k1)]
        by_cases k2 : d = 91
        · rw [if_pos (eq_num (x := 91) 91 rfl k2)]; exact hkeep (by subst k2; rfl) _
        rw [if_neg (ne_num (x := 91) 91 rfl k2)]
        by_cases k3 : d = 42
        · rw [if_pos (eq_num (x := 42) 42 rfl k3)]; exact hkeep (by subst k3; rfl) _
        rw [if_neg (ne_num (x := 42) 42 rfl k3)]
        by_cases k4 : d = 94
        · rw [if_pos (eq_num (x := 94) 94 rfl k4)]; exact hkeep (by subst k4; rfl) _
        rw [if_neg (ne_num (x := 94) 94 rfl k4)]
        by_cases k5 : d = 36
        · rw [if_pos (eq_num (x := 36) 36 rfl k5)]; exact hkeep (by subst k5; rfl) _
        rw [if_neg (ne_num (x := 36) 36 rfl k5)]
        by_cases k6 : d = 38
        · rw [if_pos (eq_num (x := 38) 38 rfl k6)]; exact hkeep (by subst k6; rfl) _
        rw [if_neg (ne_num (x := 38) 38 rfl k6), if_pos (by omega)]
        refine hfin P _ hP ?_
        rw [hW1, ← hW, escL, if_pos ⟨e, by simp [keepsB, k1, k2, k3, k4, k5, k6]⟩, List.append_assoc]
      · have he : ¬ X.toList = x9.toList := by
          rw [Lib.toList_data, Lib.toList_data, hx, h9]
          intro h; apply e; injection h
        rw [if_neg he, if_pos (by omega), if_pos (by omega)]
        rw [if_neg e] at hP
        refine hfin _ _ ?_ ?_
        · rw [append_data, hx, ← hP, List.append_assoc]; rfl
        · rw [hW2, ← hW, escL, if_neg (fun h => e h.1), List.append_assoc]
    by_cases e10 : b = 10
    · rw [if_pos (eq_num (x := 10) 10 rfl e10)]; exact hskip (by simp [skipB, e10])
    rw [if_neg (ne_num (x := 10) 10 rfl e10)]
    by_cases e92 : b = 92
    · have : ((b.toNat : Int) == 92) = true := beq_iff_eq.2 (eq_num (x := 92) 92 rfl e92)
      rw [this]; exact hskip (by simp [skipB, e92])
    · have : ((b.toNat : Int) == 92) = false := beq_eq_false_iff_ne.2 (ne_num (x := 92) 92 rfl e92)
      rw [this]; exact hgo (by simp [skipB, e10, e92])

theorem ScanPieces_small (a0 a1 a2 : ByteArray) (a3 : Int) (h0 : a0.size ≤ 1048576) (h1 : a1.size ≤ 1048576) (h2 : a2.size ≤ 1048576) (h3 : (Lit.int .u8 a3).wf = true) : ∃ k, runnellaw17_ScanPieces.f k a0 a1 a2 a3 = some true := by
  obtain ⟨d, rfl⟩ := u8_of_wf h3
  obtain ⟨K, hK⟩ : ∃ K : Nat, 19000000 < K := ⟨19000001, by omega⟩
  refine ⟨K + 1, ?_⟩
  have haw : ∀ k, 40 ≤ k → runnellaw17_awake.f k = some true := fun k hk => at_rounds (g := runnellaw17_awake.f) runnellaw17_awake.mono hk awake17
  have hj : runnellaw17_ScanPieces.j0 (K + 1) a0 a1 a2 (d.toNat : Int) true = some true := by
    rw [runnellaw17_ScanPieces.j0, if_pos rfl, haw K (by omega)]
    rfl
  unfold runnellaw17_ScanPieces.f
  rw [haw (K + 1) (by omega), Option.bind_some, if_pos rfl]
  by_cases e10 : d = 10
  · rw [if_pos (eq_num (x := 10) 10 rfl e10)]; exact hj
  rw [if_neg (ne_num (x := 10) 10 rfl e10)]
  by_cases e92 : d = 92
  · have : ((d.toNat : Int) == 92) = true := beq_iff_eq.2 (eq_num (x := 92) 92 rfl e92)
    rw [this]; exact hj
  have : ((d.toNat : Int) == 92) = false := beq_eq_false_iff_ne.2 (ne_num (x := 92) 92 rfl e92)
  rw [this, runnellaw17_ScanPieces.j0, if_neg (by simp)]
  exact Pieces_loop a0 a1 a2 d e10 e92 h0 h1 h2 _ (strOf_bts_list [d]) _ 0 K _ _ _ rfl (by omega) rfl rfl rfl (by rw [length_drop]; omega)

theorem ScanPieces_walk (a0 a1 a2 : ByteArray) (a3 : Int) (w : World) (h0 : a0.size ≤ 1048576) (h1 : a1.size ≤ 1048576) (h2 : a2.size ≤ 1048576) (h3 : (Lit.int .u8 a3).wf = true) :
    Calls Try.prog 12 #[.string a0, .string a1, .string a2, .int .u8 a3] w fun e w' => e = .returned (.bool true) ∧ Below w.heap.size w w' := by
  obtain ⟨k, hk⟩ := ScanPieces_small a0 a1 a2 a3 h0 h1 h2 h3
  exact runnellaw17_ScanPieces.calls k a0 a1 a2 a3 true w hk

end Go.Proofs.Ytdlbmajilmmapaa.Pure
