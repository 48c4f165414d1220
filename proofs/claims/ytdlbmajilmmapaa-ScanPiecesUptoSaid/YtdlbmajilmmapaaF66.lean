/- scan.Name, at texts of bytes below 128: it answers whether the text has 1 to 64 bytes, none of them a newline or a nought. (Of other texts this text says nothing.) -/
import Derived.Test.YtdlbmajilmmapaaBytes
import Derived.Test.YtdlbmajilmmapaaShelf
namespace Go.Proofs.Ytdlbmajilmmapaa.F
open Go.RowKit Go.Proofs.YtdlbmajilmmapaaW.PrintWords

def nameOK (l : List UInt8) : Bool := !l.isEmpty && decide (l.length ≤ 64) && !(l.any fun b => b == 10 || b == 0)
def scan_Name.f (a0 : ByteArray) : Option (Bool) := if (a0.data.toList.all fun b => decide (b.toNat < 128)) = true then some (nameOK a0.data.toList) else none

theorem indexAny_two (l : List UInt8) : (decide (Lib.indexAny l [10, 0] < 0)) = !(l.any fun b => b == 10 || b == 0) := by
  induction l with
  | nil => rfl
  | cons b l ih =>
    have hge := Lib.indexAny_ge [10, 0] l
    rw [Lib.indexAny, List.any_cons]
    have hc : ([10, 0] : List UInt8).contains b = (b == 10 || b == 0) := by rw [Bool.eq_iff_iff]; simp
    rw [hc]
    cases hb : (b == 10 || b == 0) with
    | true => simp
    | false =>
      simp only [Bool.false_eq_true, if_false, Bool.false_or]
      rw [← ih]
      by_cases e : Lib.indexAny l [10, 0] = -1
      · rw [e]; rfl
      · rw [if_neg (by simpa using e)]
        congr 1
        rw [eq_iff_iff]
        omega

theorem scan_Name_nil (a0 : ByteArray) (w : World) (h : a0.data.toList = []) :
    Calls Try.prog 66 #[.string a0] w fun e w' => e = .returned (.bool false) ∧ Below w.heap.size w w' := by
  have c0 : (a0.toList == []) = true := by rw [Lib.toList_data, h]; rfl
  have c1 : (a0.toList != []) = false := by rw [Lib.toList_data, h]; rfl
  clear h
  go_enter Try.func66, Try.ntmps66
  go_wp2
  go_ret
  exact ⟨rfl, Below.refl _ _⟩

theorem scan_Name_long (a0 : ByteArray) (w : World) (h : a0.data.toList ≠ []) (h2 : 64 < a0.size) :
    Calls Try.prog 66 #[.string a0] w fun e w' => e = .returned (.bool false) ∧ Below w.heap.size w w' := by
  have c0 : (a0.toList == []) = false := by rw [Lib.toList_data]; simpa using h
  have c1 : (a0.toList != []) = true := by rw [Lib.toList_data]; simpa using h
  have c2 : decide ((a0.size : Int) ≤ 64) = false := decide_eq_false (by omega)
  clear h h2
  go_enter Try.func66, Try.ntmps66
  go_wp2
  go_ret
  exact ⟨rfl, Below.refl _ _⟩

theorem scan_Name_fit (a0 : ByteArray) (w : World) (h : a0.data.toList ≠ []) (h2 : a0.size ≤ 64)
    (H : Hid (∀ W, Calls Try.prog 80 #[.string a0, .string ⟨#[10, 0]⟩] W fun e w' => e = .returned (.int .i64 (Lib.indexAny a0.data.toList [10, 0])) ∧ Below W.heap.size W w')) :
    Calls Try.prog 66 #[.string a0] w fun e w' => e = .returned (.bool (decide (Lib.indexAny a0.data.toList [10, 0] < 0))) ∧ Below w.heap.size w w' := by
  have c0 : (a0.toList == []) = false := by rw [Lib.toList_data]; simpa using h
  have c1 : (a0.toList != []) = true := by rw [Lib.toList_data]; simpa using h
  have c2 : decide ((a0.size : Int) ≤ 64) = true := decide_eq_true (by omega)
  clear h h2
  generalize Lib.indexAny a0.data.toList [10, 0] = z at H ⊢
  go_enter Try.func66, Try.ntmps66
  go_wp2_with (go_at_call 80; refine (H.out _).mono ?_; rintro e w' ⟨rfl, hb⟩)
  go_ret
  exact ⟨rfl, hb⟩

theorem scan_Name.calls (a0 : ByteArray) (r : Bool) (w : World) (h : scan_Name.f a0 = some r) :
    Calls Try.prog 66 #[.string a0] w fun e w' => e = .returned (.bool r) ∧ Below w.heap.size w w' := by
  unfold scan_Name.f at h
  split at h
  next hall =>
    obtain rfl := Option.some.inj h
    clear h
    have has : ∀ (j : Nat) (b : UInt8), a0.data.toList[j]? = some b → b.toNat < 128 := by
      intro j b hb
      have := List.all_eq_true.1 hall b (List.mem_of_getElem? hb)
      simpa using this
    unfold nameOK
    by_cases hn : a0.data.toList = []
    · rw [hn]; exact scan_Name_nil a0 w hn
    · have he : a0.data.toList.isEmpty = false := by simpa using hn
      by_cases hl : a0.size ≤ 64
      · rw [he, decide_eq_true (by rw [← size_list]; exact hl), ← indexAny_two]
        exact scan_Name_fit a0 w hn hl (fun W => Try.strings_IndexAny_laid a0 ⟨#[10, 0]⟩ W (by omega) (by decide) has (by
          intro j b hb
          match j, hb with
          | 0, hb => simp at hb; subst hb; decide
          | 1, hb => simp at hb; subst hb; decide
          | j + 2, hb => simp at hb))
      · rw [he, decide_eq_false (by rw [← size_list]; exact hl)]
        exact scan_Name_long a0 w hn (by omega)
  next => cases h

end Go.Proofs.Ytdlbmajilmmapaa.F
