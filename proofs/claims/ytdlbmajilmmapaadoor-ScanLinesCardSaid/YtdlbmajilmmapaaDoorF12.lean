/- scan.Name, at every text: it answers whether the text has 1 to 64 bytes, none of them a newline or a nought. No condition. -/
import Derived.Test.YtdlbmajilmmapaaDoorBytes
import Derived.Test.YtdlbmajilmmapaaDoorShelf
import Derived.Laws.Runes
import Derived.Laws.RangeAny
import Derived.Lib.MapLaws
import Derived.WalkMore
import Derived.Lib.Hide
import Derived.Deep.QuietTactic
import Derived.BigQuiet
namespace Go.Proofs.YtdlbmajilmmapaaDoor.F
open Go.RowKit Go.Proofs.YtdlbmajilmmapaaDoorW.PrintWords
set_option linter.unusedVariables false
set_option linter.unusedSimpArgs false

def nameOK (l : List UInt8) : Bool := !l.isEmpty && decide (l.length ≤ 64) && !(l.any fun b => b == 10 || b == 0)
def scan_Name.f (a0 : ByteArray) : Option (Bool) := some (nameOK a0.data.toList)

theorem indexAny_two (l : List UInt8) : (decide (Lib.indexAny l [10, 0] < 0)) = !(l.any fun b => b == 10 || b == 0) := by
  induction l with
  | nil => rfl
  | cons b l ih =>
    have hge := Lib.indexAny_ge [10, 0] l
    rw [Lib.indexAny, List.any_cons]
    have hc : ([10, 0] : List UInt8).contains b = (b == 10 || b == 0) := by rw [Bool.eq_iff_iff]; simp
    rw [hc]
    cases hb : (b == 10 || b == 0) with
    | true => simp
    | false =>
      simp only [Bool.false_eq_true, if_false, Bool.false_or]
      rw [← ih]
      by_cases e : Lib.indexAny l [10, 0] = -1
      · rw [e]; rfl
      · rw [if_neg (by simpa using e)]
        congr 1
        rw [eq_iff_iff]
        omega

/-! ## strings.IndexRune in the two bytes, at a rune that is no byte below 128 -/
set_option maxHeartbeats 1000000 in
set_option maxRecDepth 100000 in
theorem IndexRune_bad (w : World) :
    Calls Tryd.prog 48 #[.string ⟨#[10, 0]⟩, .int .i32 65533] w fun e w' => e = .returned (.int .i64 (-1)) ∧ Below w.heap.size w w' := by
  have hne : ∀ t, (Instr.next (.pointer (some ⟨w.heap.size, 0, none⟩)) true t).run Tryd.prog (w.iter ⟨#[10, 0]⟩ 2) = _ := fun t => run_next_end (P := Tryd.prog) w ⟨#[10, 0]⟩ 2 t (by decide)
  have h0 : ∀ t, (Instr.next (.pointer (some ⟨w.heap.size, 0, none⟩)) true t).run Tryd.prog (w.iter ⟨#[10, 0]⟩ 0) = _ := fun t => run_next_ascii (P := Tryd.prog) w ⟨#[10, 0]⟩ 0 t (by decide) (by decide)
  have h1 : ∀ t, (Instr.next (.pointer (some ⟨w.heap.size, 0, none⟩)) true t).run Tryd.prog (w.iter ⟨#[10, 0]⟩ 1) = _ := fun t => run_next_ascii (P := Tryd.prog) w ⟨#[10, 0]⟩ 1 t (by decide) (by decide)
  go_enter Tryd.func48, Tryd.ntmps48
  go_wp2
  go_wp2
  go_loopg [5, 6] 2 (fun g _ _ wx => ∃ i : Nat, i + g = 2 ∧ wx = w.iter ⟨#[10, 0]⟩ i)
  case atStart => exact ⟨0, by omega, rfl⟩
  case round =>
    obtain ⟨i, hig, rfl⟩ := hrel
    match gk, i, hig with
    | 0, 2, _ =>
      go_wp2
      try rw [Exit.noGoto_ret]
      go_ret
      exact ⟨rfl, (Below.refl _ _).alloc (Nat.le_refl _) _⟩
    | 1, 1, _ =>
      go_wp2
      go_roundg 0
      case measure => omega
      case rel => exact ⟨2, by omega, rfl⟩
    | 2, 0, _ =>
      go_wp2
      go_roundg 1
      case measure => omega
      case rel => exact ⟨1, by omega, rfl⟩

theorem valid_is (r : Int) (b : Bool) (hv : Lib.validRune r = b) (w : World) : Calls Tryd.prog 58 #[.int .i32 r] w fun e w' => e = .returned (.bool b) ∧ w' = w := by
  have h := Tryd.utf8_ValidRune r w
  rw [hv] at h
  exact h
set_option maxHeartbeats 1000000 in
set_option maxRecDepth 100000 in
theorem IndexRune_none (r : Int) (h0 : 128 ≤ r) (hr : r ≠ 65533) (hv : Lib.validRune r = false) (w : World) :
    Calls Tryd.prog 48 #[.string ⟨#[10, 0]⟩, .int .i32 r] w fun e w' => e = .returned (.int .i64 (-1)) ∧ Below w.heap.size w w' := by
  have c0 : decide ((0 : Int) ≤ r) = true := decide_eq_true (by omega)
  have c1 : decide (r < 128) = false := decide_eq_false (by omega)
  have c2 : (r == 65533) = false := beq_eq_false_iff_ne.2 hr
  clear hr
  have HV := Aside0.mk hv
  clear hv
  go_enter Tryd.func48, Tryd.ntmps48
  go_wp2_with (go_at_call 58; refine (valid_is r false HV.out _).mono ?_; rintro e w' ⟨rfl, rfl⟩)
  try rw [Exit.noGoto_ret]
  go_ret
  exact ⟨rfl, Below.refl _ _⟩

theorem enc_two {r : Int} (h0 : 128 ≤ r) (h1 : r < 2048) : ∃ a b : UInt8, Utf8.encode r = ⟨#[a, b]⟩ ∧ 128 ≤ b.toNat := by
  refine ⟨UInt8.ofNat (0xC0 + r.toNat / 64), UInt8.ofNat (0x80 + r.toNat % 64), ?_, ?_⟩
  · unfold Utf8.encode Utf8.valid
    have hv : (decide (0 ≤ r) && decide (r < 0xD800) || decide (0xE000 ≤ r) && decide (r ≤ 0x10FFFF)) = true := by simp; omega
    simp only [hv, if_true]
    rw [if_neg (by omega), if_pos (by omega)]
  · rw [UInt8.toNat_ofNat']
    omega
theorem enc_more {r : Int} (h1 : 2048 ≤ r) (hv : Lib.validRune r = true) : (Utf8.encode r).size = 3 ∨ (Utf8.encode r).size = 4 := by
  have hv' : Utf8.valid r = true := by
    unfold Lib.validRune at hv
    unfold Utf8.valid
    simp at hv ⊢
    omega
  unfold Utf8.encode
  simp only [hv', if_true]
  rw [if_neg (by omega), if_neg (by omega)]
  by_cases h : r.toNat < 0x10000
  · rw [if_pos h]; exact .inl rfl
  · rw [if_neg h]; exact .inr rfl

set_option maxHeartbeats 1000000 in
set_option maxRecDepth 100000 in
theorem IndexRune_more (r : Int) (h0 : 2048 ≤ r) (hr : r ≠ 65533) (hv : Lib.validRune r = true) (w : World) :
    Calls Tryd.prog 48 #[.string ⟨#[10, 0]⟩, .int .i32 r] w fun e w' => e = .returned (.int .i64 (-1)) ∧ Below w.heap.size w w' := by
  have c0 : decide ((0 : Int) ≤ r) = true := decide_eq_true (by omega)
  have c1 : decide (r < 128) = false := decide_eq_false (by omega)
  have c2 : (r == 65533) = false := beq_eq_false_iff_ne.2 hr
  have hs := enc_more h0 hv
  have hwr : IntKind.i64.wrap r = r ∨ True := .inr trivial
  clear hr h0 hwr
  generalize hS : Utf8.encode r = S at hs
  have HS := Aside0.mk hS
  have HV := Aside0.mk hv
  clear hv
  rcases hs with hs | hs
  all_goals
    go_enter Tryd.func48, Tryd.ntmps48
    go_wp2_with (go_at_call 58; refine (valid_is r true HV.out _).mono ?_; rintro e w' ⟨rfl, rfl⟩)
    go_step3
    go_wp2
    refine wp_loop_rounds 1 ?_
    rw [rounds_succ]
    go_wp2
    rw [Exit.noGoto_ret]
    simp only [Exit.inBlock]
    go_ret
    exact ⟨rfl, Below.refl _ _⟩

theorem quiet_again {P : Program} {f : FuncId} {args : Array Value} {w : World} {a n : Nat} {v : Value} (h : Calls P f args (w.drewN (a + n)) fun e w' => e = .returned v ∧ w' = w.drewN (a + n)) :
    Calls P f args (w.drewN (a + n)) fun e w'' => e = .returned v ∧ ∃ m, w'' = w.drewN (a + m) :=
  h.mono fun _ _ h2 => ⟨h2.1, n, h2.2⟩
theorem idx_none (s : ByteArray) (c : Int) (hs : s.size = 0) (w : World) : Calls Tryd.prog 23 #[.string s, .int .u8 c] w fun e w' => e = .returned (.int .i64 (-1)) ∧ w' = w := by
  have h := Tryd.strings_IndexByte s c w
  have e : s.data.toList = [] := List.length_eq_zero_iff.1 (by simpa using hs)
  rw [e] at h
  exact h
set_option maxHeartbeats 2000000 in
set_option maxRecDepth 100000 in
theorem IndexRune_two (r : Int) (h0 : 128 ≤ r) (h1 : r < 2048) (w : World) :
    Calls Tryd.prog 48 #[.string ⟨#[10, 0]⟩, .int .i32 r] w fun e w' => e = .returned (.int .i64 (-1)) ∧ Below w.heap.size w w' := by
  have c0 : decide ((0 : Int) ≤ r) = true := decide_eq_true (by omega)
  have c1 : decide (r < 128) = false := decide_eq_false (by omega)
  have c2 : (r == 65533) = false := beq_eq_false_iff_ne.2 (by omega)
  have hv : Lib.validRune r = true := by unfold Lib.validRune; simp; omega
  obtain ⟨x, y, hS, hy⟩ := enc_two h0 h1
  have HY := Aside0.mk hy
  have HV := Aside0.mk hv
  have e1 : ((0 : Int) == (y.toNat : Int)) = false := beq_eq_false_iff_ne.2 (by omega)
  have e2 : ((0 : Int) != (y.toNat : Int)) = true := bne_iff_ne.2 (by omega)
  have e3 : (0 == y.toNat) = false := beq_eq_false_iff_ne.2 (by omega)
  have e4 : (0 != y.toNat) = true := bne_iff_ne.2 (by omega)
  have e5 : ∀ h h', ((((⟨#[10, 0]⟩ : ByteArray)[1]'h).toNat : Int) != (((⟨#[x, y]⟩ : ByteArray)[1]'h').toNat : Int)) = true := fun _ _ => e2
  clear h0 h1 hv hy e1 e2 e3 e4
  go_enter Tryd.func48, Tryd.ntmps48
  go_wp2_with (go_at_call 58; refine (valid_is r true HV.out _).mono ?_; rintro e w' ⟨rfl, rfl⟩)
  go_step3
  go_wp2
  refine wp_loop_rounds 1 ?_
  rw [rounds_succ]
  go_wp2
  go_step3
  go_wp2
  go_quiet (fail)
  go_wp2
  go_quiet ((go_at_call 23; exact quiet_again (idx_none _ _ (by rfl) _)))
  go_wp2
  rw [Exit.noGoto_ret]
  simp only [Exit.inBlock, Exit.then]
  (try rw [Exit.noGoto_ret])
  (try simp only [Exit.inBlock, Exit.then])
  go_ret
  exact ⟨rfl, pw_below_drewN (Below.refl _ _) _⟩

theorem IndexRune_high (r : Int) (h0 : 128 ≤ r) (w : World) :
    Calls Tryd.prog 48 #[.string ⟨#[10, 0]⟩, .int .i32 r] w fun e w' => e = .returned (.int .i64 (-1)) ∧ Below w.heap.size w w' := by
  by_cases h1 : r = 65533
  · subst h1
    exact IndexRune_bad w
  by_cases h2 : r < 2048
  · exact IndexRune_two r h0 h2 w
  cases hv : Lib.validRune r with
  | false => exact IndexRune_none r h0 h1 hv w
  | true => exact IndexRune_more r (by omega) h1 hv w

/-- One step of a range over a text: a byte below 128 alone, or some bytes that all lie above. -/
theorem dec_step (s : ByteArray) (p : Nat) (hp : p < s.size) :
    ((s.get! p).toNat < 128 ∧ Utf8.decode s p = ((s.get! p).toNat, 1)) ∨ (128 ≤ (Utf8.decode s p).1 ∧ 1 ≤ (Utf8.decode s p).2 ∧ p + (Utf8.decode s p).2 ≤ s.size ∧ ∀ j, p ≤ j → j < p + (Utf8.decode s p).2 → 128 ≤ (s.get! j).toNat) := by
  unfold Utf8.decode
  simp only [Nat.add_zero, Bool.and_eq_true, decide_eq_true_eq, beq_iff_eq, Utf8.runeError]
  by_cases h0 : (s.get! p).toNat < 128
  · left
    rw [if_pos h0]
    exact ⟨h0, rfl⟩
  right
  rw [if_neg h0]
  have one : ∀ j, p ≤ j → j < p + 1 → 128 ≤ (s.get! j).toNat := fun j h1 h2 => by
    obtain rfl : j = p := by omega
    omega
  by_cases h1 : (s.get! p).toNat / 32 = 6 ∧ p + 1 < s.size ∧ (s.get! (p + 1)).toNat / 64 = 2
  · rw [if_pos h1]
    split
    · refine ⟨by assumption, (show 1 ≤ 2 from by decide), by show p + 2 ≤ _; omega, fun j h2 h3 => ?_⟩
      rcases (by have : j < p + 2 := h3; omega : j = p ∨ j = p + 1) with rfl | rfl <;> omega
    · exact ⟨by decide, by decide, by show p + 1 ≤ _; omega, one⟩
  rw [if_neg h1]
  by_cases h2 : ((s.get! p).toNat / 16 = 14 ∧ p + 1 < s.size ∧ (s.get! (p + 1)).toNat / 64 = 2) ∧ p + 2 < s.size ∧ (s.get! (p + 2)).toNat / 64 = 2
  · rw [if_pos h2]
    split
    · refine ⟨by rename_i h; have := h.1; show 128 ≤ _; omega, (show 1 ≤ 3 from by decide), by show p + 3 ≤ _; omega, fun j h2 h3 => ?_⟩
      rcases (by have : j < p + 3 := h3; omega : j = p ∨ j = p + 1 ∨ j = p + 2) with rfl | rfl | rfl <;> omega
    · exact ⟨by decide, by decide, by show p + 1 ≤ _; omega, one⟩
  rw [if_neg h2]
  by_cases h3 : (((s.get! p).toNat / 8 = 30 ∧ p + 1 < s.size ∧ (s.get! (p + 1)).toNat / 64 = 2) ∧ p + 2 < s.size ∧ (s.get! (p + 2)).toNat / 64 = 2) ∧ p + 3 < s.size ∧ (s.get! (p + 3)).toNat / 64 = 2
  · rw [if_pos h3]
    split
    · refine ⟨by rename_i h; have := h.1; show 128 ≤ _; omega, (show 1 ≤ 4 from by decide), by show p + 4 ≤ _; omega, fun j h2 h3 => ?_⟩
      rcases (by have : j < p + 4 := h3; omega : j = p ∨ j = p + 1 ∨ j = p + 2 ∨ j = p + 3) with rfl | rfl | rfl | rfl <;> omega
    · exact ⟨by decide, by decide, by show p + 1 ≤ _; omega, one⟩
  rw [if_neg h3]
  exact ⟨by decide, by decide, by show p + 1 ≤ _; omega, one⟩

theorem next_at {P : Program} (W : World) (k : Nat) (s : ByteArray) (p : Nat) (hk : W.heap[k]? = some (.stringIter s p)) (h : p < s.size) :
    ∃ W2 : World, (∀ t, (Instr.next (.pointer (some ⟨k, 0, none⟩)) true t).run P W = .ok (.tuple #[.bool true, .int .i64 (p : Int), .int .i32 ((Utf8.decode s p).1 : Int)]) W2) ∧ W2.heap[k]? = some (.stringIter s (p + (Utf8.decode s p).2)) ∧ W.grownBy W2 (some k) := by
  refine ⟨{ W with heap := W.heap.setIfInBounds k (.stringIter s (p + (Utf8.decode s p).2)) }, fun t => ?_, ?_, ⟨rfl, rfl, rfl, by simp, fun j hj hne => ?_⟩⟩
  · simp only [Instr.next, getObj, setObj, Sem.run_bind, Sem.run, hk, Result.andThen, h, if_true]
    simp [goInt]
  · have hlt : k < W.heap.size := (Array.getElem?_eq_some_iff.1 hk).1
    simp [Array.getElem?_setIfInBounds, hlt]
  · have : k ≠ j := fun e => hne (by rw [e])
    simp [Array.getElem?_setIfInBounds, this]
theorem next_over {P : Program} (W : World) (k : Nat) (s : ByteArray) (p : Nat) (hk : W.heap[k]? = some (.stringIter s p)) (h : ¬ p < s.size) (t : TypeId) :
    (Instr.next (.pointer (some ⟨k, 0, none⟩)) true t).run P W = .ok (.tuple #[.bool false]) W := by
  simp only [Instr.next, getObj, Sem.run_bind, Sem.run, hk, Result.andThen, h, if_false]
  rfl
theorem get_list (s : ByteArray) (j : Nat) (h : j < s.size) : s.data.toList[j]? = some (s.get! j) := by
  have h' : j < s.data.toList.length := by simpa using h
  rw [List.getElem?_eq_getElem h']
  congr 1
  have : s.data.size = s.size := rfl
  simp [ByteArray.get!, this, h]
theorem few_not (n : Int) (w : World) (h : decide (8 < n) = false) : Calls Tryd.prog 49 #[.int .i64 n] w fun e w' => e = .returned (.bool false) ∧ w = w' := by
  go_enter Tryd.func49, Tryd.ntmps49
  go_wp2
  go_ret
  exact ⟨rfl, rfl⟩
theorem low_is (b : UInt8) (z : Int) (hb : b.toNat < 128) (hz : Lib.indexByte [10, 0] ((b.toNat : Int)).toNat.toUInt8 = z) (w : World) : Calls Tryd.prog 48 #[.string ⟨#[10, 0]⟩, .int .i32 (b.toNat : Int)] w fun e w' => e = .returned (.int .i64 z) ∧ w = w' := by
  have h := Tryd.strings_IndexRune_ascii ⟨#[10, 0]⟩ (b.toNat : Int) w (by omega) (by omega)
  rw [show (⟨#[10, 0]⟩ : ByteArray).data.toList = [10, 0] from rfl, hz] at h
  exact h.mono fun _ _ h => ⟨h.1, h.2.symm⟩
def two_ (b : UInt8) : Bool := b == 10 || b == 0

set_option maxHeartbeats 2000000 in
set_option maxRecDepth 100000 in
theorem IndexAny_few (s : ByteArray) (h8 : s.size ≤ 8) (w : World) :
    Calls Tryd.prog 27 #[.string s, .string ⟨#[10, 0]⟩] w fun e w' => ∃ z : Int, e = .returned (.int .i64 z) ∧ decide (z < 0) = !(s.data.toList.any two_) ∧ Below w.heap.size w w' := by
  have c0 : decide (8 < s.size) = false := decide_eq_false (by omega)
  have c1 : decide ((s.size : Int) > 8) = false := decide_eq_false (by omega)
  have c2 : decide (8 < (s.size : Int)) = false := decide_eq_false (by omega)
  have HS8 := Aside0.mk h8
  clear h8
  go_enter Tryd.func27, Tryd.ntmps27
  go_wp2_with (go_at_call 49; refine (few_not _ _ c2).mono ?_; rintro e w' ⟨rfl, rfl⟩)
  go_loopg [9, 10] s.size (fun gk _ _ wx => ∃ p : Nat, p ≤ s.size ∧ s.size ≤ p + gk ∧ Aside0 (wx.heap[w.heap.size]? = some (.stringIter s p)) ∧ Aside0 (Below w.heap.size w wx) ∧ Aside0 (∀ j, j < p → two_ (s.get! j) = false))
  case atStart => exact ⟨0, by omega, by omega, ⟨World.iter_heap _ _ _⟩, ⟨below_alloc (Below.refl _ _) _⟩, ⟨fun j h => by omega⟩⟩
  case round =>
    obtain ⟨p, hp, hg, HK, HB, HA⟩ := hrel
    by_cases hlt : p < s.size
    · obtain ⟨gk, rfl⟩ : ∃ m, gk = m + 1 := ⟨gk - 1, by omega⟩
      obtain ⟨W2, hrun, hk2, hg2⟩ := next_at (P := Tryd.prog) wr w.heap.size s p HK.out hlt
      have HK2 := Aside0.mk hk2
      have HB2 := Aside0.mk (HB.out.grown hg2 HB.out.size (fun k e => by cases e; exact Nat.le_refl _))
      rcases dec_step s p hlt with ⟨hb, hd⟩ | ⟨hr, hn, hpn, hall⟩
      · rw [hd] at hrun hk2
        have HK3 := Aside0.mk hk2
        have HBB := Aside0.mk hb
        have HP := Aside0.mk (And.intro hp (And.intro hg hlt))
        cases ht : two_ (s.get! p) with
        | true =>
          have hz : ∃ z : Int, Lib.indexByte [10, 0] ((s.get! p).toNat : Int).toNat.toUInt8 = z ∧ decide (z ≥ 0) = true ∧ decide (0 ≤ z) = true := by
            unfold two_ at ht
            rw [Bool.or_eq_true, beq_iff_eq, beq_iff_eq] at ht
            rcases ht with h | h <;> rw [h] <;> exact ⟨_, rfl, by decide, by decide⟩
          obtain ⟨z, hz, hz0, hz1⟩ := hz
          have HZ := Aside0.mk hz
          clear hk2 hg2 hb hd hp hg hlt hz HK2
          go_wp2_with (go_at_call 48; refine (low_is _ z HBB.out HZ.out _).mono ?_; rintro e w' ⟨rfl, rfl⟩)
          go_ret
          refine ⟨(p : Int), rfl, ?_, HB2.out⟩
          have : s.data.toList.any two_ = true := List.any_eq_true.2 ⟨_, List.mem_of_getElem? (get_list s p HP.out.2.2), ht⟩
          rw [this]
          exact decide_eq_false (by omega)
        | false =>
          have hz : Lib.indexByte [10, 0] ((s.get! p).toNat : Int).toNat.toUInt8 = -1 := by
            have e : ((s.get! p).toNat : Int).toNat.toUInt8 = s.get! p := by simp
            rw [e]
            unfold two_ at ht
            rw [Bool.or_eq_false_iff, beq_eq_false_iff_ne, beq_eq_false_iff_ne] at ht
            obtain ⟨h1, h2⟩ := ht
            generalize s.get! p = c at h1 h2
            have h1' : (10 == c) = false := beq_eq_false_iff_ne.2 (Ne.symm h1)
            have h2' : (0 == c) = false := beq_eq_false_iff_ne.2 (Ne.symm h2)
            simp [Lib.indexByte, h1, h2, h1', h2', Ne.symm h1, Ne.symm h2]
          have HZ := Aside0.mk hz
          have HT := Aside0.mk ht
          clear hk2 hg2 hb hd hp hg hlt hz HK2 ht
          go_wp2_with (go_at_call 48; refine (low_is _ (-1) HBB.out HZ.out _).mono ?_; rintro e w' ⟨rfl, rfl⟩)
          go_roundg gk
          case rel =>
            refine ⟨p + 1, by have := HP.out; omega, by have := HP.out; omega, HK3, HB2, ⟨fun j hj => ?_⟩⟩
            by_cases e : j = p
            · rw [e]; exact HT.out
            · exact HA.out j (by omega)
          case measure => omega
      · have HP := Aside0.mk (And.intro hp (And.intro hg (And.intro hr (And.intro hn (And.intro hpn hall)))))
        generalize Utf8.decode s p = d at hrun HK2 HP
        clear hk2 hg2 hp hg hlt hr hn hpn hall
        go_wp2_with (go_at_call 48; refine (IndexRune_high _ (by have := HP.out.2.2.1; omega) _).mono ?_; rintro e w' ⟨rfl, hb'⟩)
        go_roundg gk
        case rel =>
          refine ⟨p + d.2, by have := HP.out.2.2.2.2.1; omega, by have := HP.out; omega, ⟨(hb'.block _ (Array.getElem?_eq_some_iff.1 HK2.out).1).trans HK2.out⟩, ⟨below_step HB2.out hb'⟩, ⟨fun j hj => ?_⟩⟩
          by_cases e : j < p
          · exact HA.out j e
          · have h := HP.out.2.2.2.2.2 j (by omega) hj
            unfold two_
            rw [Bool.or_eq_false_iff, beq_eq_false_iff_ne, beq_eq_false_iff_ne]
            refine ⟨fun h2 => ?_, fun h2 => ?_⟩ <;> (rw [h2] at h; revert h; decide)
        case measure => omega
    · have hov := next_over (P := Tryd.prog) wr w.heap.size s p HK.out hlt
      have HP := Aside0.mk (show p = s.size by omega)
      clear hp hg hlt
      go_wp2
      go_ret
      refine ⟨-1, rfl, ?_, HB.out⟩
      have : s.data.toList.any two_ = false := by
        rw [List.any_eq_false]
        intro b hb
        obtain ⟨j, hj, rfl⟩ := List.getElem_of_mem hb
        have hj' : j < s.size := by simpa using hj
        have h := HA.out j (by have := HP.out; omega)
        have e := get_list s j hj'
        rw [List.getElem?_eq_getElem hj] at e
        rw [Option.some.inj e, h]
        decide
      rw [this]
      decide

theorem scan_Name_nil (a0 : ByteArray) (w : World) (h : a0.data.toList = []) :
    Calls Tryd.prog 12 #[.string a0] w fun e w' => e = .returned (.bool false) ∧ Below w.heap.size w w' := by
  have c0 : (a0.toList == []) = true := by rw [Lib.toList_data, h]; rfl
  have c1 : (a0.toList != []) = false := by rw [Lib.toList_data, h]; rfl
  clear h
  go_enter Tryd.func12, Tryd.ntmps12
  go_wp2
  go_ret
  exact ⟨rfl, Below.refl _ _⟩

theorem scan_Name_long (a0 : ByteArray) (w : World) (h : a0.data.toList ≠ []) (h2 : 64 < a0.size) :
    Calls Tryd.prog 12 #[.string a0] w fun e w' => e = .returned (.bool false) ∧ Below w.heap.size w w' := by
  have c0 : (a0.toList == []) = false := by rw [Lib.toList_data]; simpa using h
  have c1 : (a0.toList != []) = true := by rw [Lib.toList_data]; simpa using h
  have c2 : decide ((a0.size : Int) ≤ 64) = false := decide_eq_false (by omega)
  clear h h2
  go_enter Tryd.func12, Tryd.ntmps12
  go_wp2
  go_ret
  exact ⟨rfl, Below.refl _ _⟩

theorem scan_Name_fit (a0 : ByteArray) (b : Bool) (w : World) (h : a0.data.toList ≠ []) (h2 : a0.size ≤ 64)
    (H : Hid (∀ W, Calls Tryd.prog 27 #[.string a0, .string ⟨#[10, 0]⟩] W fun e w' => ∃ z : Int, e = .returned (.int .i64 z) ∧ decide (z < 0) = b ∧ Below W.heap.size W w')) :
    Calls Tryd.prog 12 #[.string a0] w fun e w' => e = .returned (.bool b) ∧ Below w.heap.size w w' := by
  have c0 : (a0.toList == []) = false := by rw [Lib.toList_data]; simpa using h
  have c1 : (a0.toList != []) = true := by rw [Lib.toList_data]; simpa using h
  have c2 : decide ((a0.size : Int) ≤ 64) = true := decide_eq_true (by omega)
  clear h h2
  go_enter Tryd.func12, Tryd.ntmps12
  go_wp2_with (go_at_call 27; refine (H.out _).mono ?_; rintro e w' ⟨z, rfl, hz, hb⟩)
  go_ret
  exact ⟨rfl, hb⟩

theorem any_two (l : List UInt8) : (l.any two_) = l.any fun b => b == 10 || b == 0 := rfl
theorem IndexAny_any (s : ByteArray) (h64 : s.size ≤ 64) (w : World) :
    Calls Tryd.prog 27 #[.string s, .string ⟨#[10, 0]⟩] w fun e w' => ∃ z : Int, e = .returned (.int .i64 z) ∧ decide (z < 0) = !(s.data.toList.any two_) ∧ Below w.heap.size w w' := by
  by_cases h8 : s.size ≤ 8
  · exact IndexAny_few s h8 w
  · refine (Tryd.strings_IndexAny_long (fun w => by kernel_rfl) s ⟨#[10, 0]⟩ w (by decide) (by omega) (by omega) (by decide) ?_).mono ?_
    · intro j b hj
      match j, hj with
      | 0, hj => obtain rfl := Option.some.inj hj; decide
      | 1, hj => obtain rfl := Option.some.inj hj; decide
    · rintro e w' ⟨rfl, rfl⟩
      exact ⟨_, rfl, indexAny_two _, below_alloc (below_alloc (Below.refl _ _) _) _⟩

theorem scan_Name.calls (a0 : ByteArray) (r : Bool) (w : World) (h : scan_Name.f a0 = some r) :
    Calls Tryd.prog 12 #[.string a0] w fun e w' => e = .returned (.bool r) ∧ Below w.heap.size w w' := by
  obtain rfl := Option.some.inj h
  by_cases h0 : a0.data.toList = []
  · have e : nameOK a0.data.toList = false := by rw [h0]; rfl
    rw [e]
    exact scan_Name_nil a0 w h0
  have hi : a0.data.toList.isEmpty = false := by simpa using h0
  by_cases h1 : 64 < a0.size
  · have e : nameOK a0.data.toList = false := by
      unfold nameOK
      have : decide (a0.data.toList.length ≤ 64) = false := decide_eq_false (by simp; omega)
      rw [this]
      simp
    rw [e]
    exact scan_Name_long a0 w h0 h1
  have e : nameOK a0.data.toList = !(a0.data.toList.any two_) := by
    unfold nameOK
    have : decide (a0.data.toList.length ≤ 64) = true := decide_eq_true (by simp; omega)
    rw [this, hi]
    rfl
  rw [e]
  exact scan_Name_fit a0 _ w h0 (by omega) (Lib.hid (fun W => IndexAny_any a0 (by omega) W))

end Go.Proofs.YtdlbmajilmmapaaDoor.F
