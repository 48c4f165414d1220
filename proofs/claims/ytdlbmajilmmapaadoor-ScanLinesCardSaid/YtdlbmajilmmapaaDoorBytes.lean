/- Small lemmas on strings as lists of bytes; of no program. -/
import Derived.Test.YtdlbmajilmmapaaDoorFx
import Derived.Lib.Strings
import Derived.Lib.Bytealg
namespace Go.Proofs.YtdlbmajilmmapaaDoor.F
open Go.RowKit Go.Proofs.YtdlbmajilmmapaaDoorW.PrintWords Go.Proofs.YtdlbmajilmmapaaDoorW.PrintLast Go.Proofs.YtdlbmajilmmapaaDoorW.PrintMore

theorem wrap_id {x : Int} (h0 : -9223372036854775808 ≤ x) (h1 : x ≤ 9223372036854775807) : wrap64 x = x := by unfold wrap64; omega

theorem wrap_one {i : Nat} (h : i ≤ 9007199254740992) : wrap64 ((i : Int) + 1) = ((i + 1 : Nat) : Int) := by rw [wrap_id (by omega) (by omega)]; omega
theorem wrap_two {i : Nat} (h : i ≤ 9007199254740992) : wrap64 ((i : Int) + 2) = ((i + 2 : Nat) : Int) := by rw [wrap_id (by omega) (by omega)]; omega
theorem wrap_one' {i : Nat} (h : i ≤ 9007199254740992) : wrap64 (((i + 1 : Nat) : Int) + 1) = ((i + 2 : Nat) : Int) := by rw [wrap_id (by omega) (by omega)]; omega

/-- bytes as numbers -/
def bts (l : List UInt8) : List Int := l.map fun b => (b.toNat : Int)
theorem bts_length (l : List UInt8) : (bts l).length = l.length := by simp [bts]
theorem bts_append (a b : List UInt8) : bts (a ++ b) = bts a ++ bts b := by simp [bts]
theorem bts_cons (a : UInt8) (b : List UInt8) : bts (a :: b) = (a.toNat : Int) :: bts b := rfl
theorem ofNat_byte (b : UInt8) : UInt8.ofNat ((b.toNat : Int)).toNat = b := by simp
theorem strOf_bts (l : List UInt8) : strOfNums (bts l) = ⟨l.toArray⟩ := by
  unfold strOfNums bts
  rw [List.map_map]
  have : ((fun n : Int => UInt8.ofNat n.toNat) ∘ fun b : UInt8 => (b.toNat : Int)) = id := by funext b; simp
  rw [this, List.map_id]
theorem strOf_bts_list (l : List UInt8) : (strOfNums (bts l)).data.toList = l := by rw [strOf_bts]
theorem size_list (s : ByteArray) : s.size = s.data.toList.length := Lib.size_eq s
theorem toList_strOf (l : List UInt8) : (strOfNums (bts l)).toList = l := by rw [Lib.toList_data, strOf_bts_list]
theorem toList_mk (l : List UInt8) : (⟨l.toArray⟩ : ByteArray).toList = l := by rw [Lib.toList_data]
theorem mk_data (s : ByteArray) : (⟨s.data.toList.toArray⟩ : ByteArray) = s := by cases s; simp
theorem empty_toList : (⟨#[]⟩ : ByteArray).toList = [] := by rw [Lib.toList_data]

theorem at_nil {s : ByteArray} {i : Nat} (h : s.data.toList.drop i = []) (hi : i ≤ s.size) : i = s.size := by
  have := List.drop_eq_nil_iff.1 h
  rw [← size_list] at this
  omega
theorem at_cons {s : ByteArray} {i : Nat} {b : UInt8} {l : List UInt8} (h : s.data.toList.drop i = b :: l) : i < s.size ∧ bt s (i : Int) = (b.toNat : Int) ∧ s.data.toList.drop (i + 1) = l := by
  have hi : i < s.data.toList.length := by
    apply Nat.lt_of_not_le
    intro hle
    rw [List.drop_eq_nil_iff.2 hle] at h
    cases h
  rw [List.drop_eq_getElem_cons hi] at h
  injection h with h1 h2
  have hi' : i < s.size := by rw [size_list]; exact hi
  refine ⟨hi', ?_, h2⟩
  unfold bt
  rw [dif_pos (by simpa using hi')]
  rw [← h1]
  rfl
theorem two_of {s : ByteArray} {i : Nat} (h : i + 2 ≤ s.size) : ∃ b c l, s.data.toList.drop i = b :: c :: l := by
  have h' : i + 2 ≤ s.data.toList.length := by rw [← size_list]; exact h
  exact ⟨_, _, _, by rw [List.drop_eq_getElem_cons (by omega), List.drop_eq_getElem_cons (by omega)]⟩
theorem length_drop (s : ByteArray) (i : Nat) : (s.data.toList.drop i).length = s.size - i := by rw [List.length_drop, ← size_list]
theorem byte_le (b : UInt8) : 0 ≤ (b.toNat : Int) ∧ (b.toNat : Int) ≤ 255 := by have := b.toNat_lt; omega
theorem byte_eq (b : UInt8) (n : Nat) (h : n < 256) : ((b.toNat : Int) = (n : Int)) ↔ b = UInt8.ofNat n := by
  constructor
  · intro e
    have : b.toNat = n := by omega
    rw [← this]; simp
  · intro e; subst e; simp; omega
theorem byte_lit (b c : UInt8) : ((b.toNat : Int) = (c.toNat : Int)) ↔ b = c := by
  constructor
  · intro e; exact UInt8.toNat_inj.1 (by omega)
  · intro e; rw [e]
theorem ne_num {b : UInt8} {x : Int} (c : UInt8) (hx : x = (c.toNat : Int)) (h : ¬ b = c) : ¬ (b.toNat : Int) = x := by subst hx; exact fun e => h ((byte_lit b c).1 e)
theorem eq_num {b : UInt8} {x : Int} (c : UInt8) (hx : x = (c.toNat : Int)) (h : b = c) : (b.toNat : Int) = x := by subst hx; exact (byte_lit b c).2 h
theorem extract_toList (s : ByteArray) (a b : Nat) : (s.extract a b).toList = (s.data.toList.drop a).take (b - a) := by rw [Lib.toList_data, Lib.extract_data]
theorem append_data (a b : ByteArray) : (a ++ b).data.toList = a.data.toList ++ b.data.toList := by simp
theorem append_size (a b : ByteArray) : (a ++ b).size = a.size + b.size := by simp
theorem u8_of_wf {x : Int} (h : (Lit.int .u8 x).wf = true) : ∃ b : UInt8, x = (b.toNat : Int) := by
  have hx : 0 ≤ x ∧ x ≤ 255 := by simpa [Lit.wf, IntKind.min, IntKind.max, IntKind.signed, IntKind.bits] using h
  exact ⟨UInt8.ofNat x.toNat, by simp; omega⟩
theorem i64_of_wf {x : Int} (h : (Lit.int .i64 x).wf = true) : -9223372036854775808 ≤ x ∧ x ≤ 9223372036854775807 := by
  simpa [Lit.wf, IntKind.min, IntKind.max, IntKind.signed, IntKind.bits] using h

end Go.Proofs.YtdlbmajilmmapaaDoor.F
