/- Texts of this claim, 6 of 29: Bytes. -/
import Derived.Lib.Strings
import Derived.Lib.Bytealg
import Derived.Test.YtcmipoicnonaeaaKS4
section
namespace Go.Proofs.Ytcmipoicnonaeaa.F
open Go.RowKit Go.Proofs.YtcmipoicnonaeaaW.PrintWords Go.Proofs.YtcmipoicnonaeaaW.PrintLast Go.Proofs.YtcmipoicnonaeaaW.PrintMore
theorem qbt {x : Int} (h0 : -9223372036854775808 ≤ x) (h1 : x ≤ 9223372036854775807) : wrap64 x = x := by unfold wrap64; omega
theorem wrap_one {i : Nat} (h : i ≤ 9007199254740992) : wrap64 ((i : Int) + 1) = ((i + 1 : Nat) : Int) := by rw [qbt (by omega) (by omega)]; omega
theorem qgj {i : Nat} (h : i ≤ 9007199254740992) : wrap64 ((i : Int) + 2) = ((i + 2 : Nat) : Int) := by rw [qbt (by omega) (by omega)]; omega
def bts (l : List UInt8) : List Int := l.map fun b => (b.toNat : Int)
theorem strOf_bts (l : List UInt8) : strOfNums (bts l) = ⟨l.toArray⟩ := by
  unfold strOfNums bts
  rw [List.map_map]
  have : ((fun n : Int => UInt8.ofNat n.toNat) ∘ fun b : UInt8 => (b.toNat : Int)) = id := by funext b; simp
  rw [this, List.map_id]
theorem qfx (l : List UInt8) : (strOfNums (bts l)).data.toList = l := by rw [strOf_bts]
theorem qcn (s : ByteArray) : s.size = s.data.toList.length := Lib.size_eq s
theorem at_cons {s : ByteArray} {i : Nat} {b : UInt8} {l : List UInt8} (h : s.data.toList.drop i = b :: l) : i < s.size ∧ bt s (i : Int) = (b.toNat : Int) ∧ s.data.toList.drop (i + 1) = l := by
  have hi : i < s.data.toList.length := by
    apply Nat.lt_of_not_le
    intro hle
    rw [List.drop_eq_nil_iff.2 hle] at h
    cases h
  rw [List.drop_eq_getElem_cons hi] at h
  injection h with h1 h2
  have hi' : i < s.size := by rw [qcn]; exact hi
  refine ⟨hi', ?_, h2⟩
  unfold bt
  rw [dif_pos (by simpa using hi')]
  rw [← h1]
  rfl
theorem two_of {s : ByteArray} {i : Nat} (h : i + 2 ≤ s.size) : ∃ b c l, s.data.toList.drop i = b :: c :: l := by
  have h' : i + 2 ≤ s.data.toList.length := by rw [← qcn]; exact h
  exact ⟨_, _, _, by rw [List.drop_eq_getElem_cons (by omega), List.drop_eq_getElem_cons (by omega)]⟩
theorem length_drop (s : ByteArray) (i : Nat) : (s.data.toList.drop i).length = s.size - i := by rw [List.length_drop, ← qcn]
theorem byte_lit (b c : UInt8) : ((b.toNat : Int) = (c.toNat : Int)) ↔ b = c := by
  constructor
  · intro e; exact UInt8.toNat_inj.1 (by omega)
  · intro e; rw [e]
theorem extract_toList (s : ByteArray) (a b : Nat) : (s.extract a b).toList = (s.data.toList.drop a).take (b - a) := by rw [Lib.toList_data, Lib.extract_data]
end Go.Proofs.Ytcmipoicnonaeaa.F
end
