/- strings.TrimRight at the cutset of a blank and a tab: it answers the text without the blanks and tabs at its end. (Of other cutsets this text says nothing.) -/
import Derived.Test.YtdlbmajilmmapaaDoorBytes
import Derived.Test.YtdlbmajilmmapaaDoorShelf
import Derived.Test.YtdlbmajilmmapaaDoorLoads
import Derived.WalkMore
namespace Go.Proofs.YtdlbmajilmmapaaDoor.F
open Go.RowKit Go.Proofs.YtdlbmajilmmapaaDoorW.PrintWords Go.Proofs.YtdlbmajilmmapaaDoorW.PrintLast Go.Proofs.YtdlbmajilmmapaaDoorW.PrintMore
set_option linter.unusedVariables false
set_option linter.unusedSimpArgs false

def isBl (b : UInt8) : Bool := b == 32 || b == 9
/-- How much of the first n bytes is left when the blanks at their end are cut. -/
def trimLen (s : ByteArray) : Nat → Nat
  | 0 => 0
  | n + 1 => if isBl (s.get! n) = true then trimLen s n else n + 1
def strings_TrimRight.f (a0 a1 : ByteArray) : Option ByteArray := if (a1.data.toList == [32, 9] && decide (a0.size ≤ 9223372036854775807)) = true then some (a0.extract 0 (trimLen a0 a0.size)) else none
theorem trimLen_le (s : ByteArray) : ∀ n, trimLen s n ≤ n
  | 0 => Nat.le_refl _
  | n + 1 => by
    rw [trimLen]
    split
    · exact Nat.le_succ_of_le (trimLen_le s n)
    · exact Nat.le_refl _

theorem asc_two : ∀ (j : Nat) b, (⟨#[32, 9]⟩ : ByteArray).data.toList[j]? = some b → b.toNat < 128 := by
  intro j b hj
  match j, hj with
  | 0, hj => obtain rfl := Option.some.inj hj; decide
  | 1, hj => obtain rfl := Option.some.inj hj; decide
def setIs (x : Nat) : Bool := match (Lib.setCells [32, 9])[x]? with
  | some (.bool b) => b == (x == 32 || x == 9)
  | _ => false
theorem set_all : ((List.range 256).all setIs) = true := by kernel_rfl
theorem set_cell (b : UInt8) : (Lib.setCells [32, 9])[b.toNat]? = some (.bool (isBl b)) := by
  have h := List.all_eq_true.1 set_all b.toNat (List.mem_range.2 b.toNat_lt)
  unfold setIs at h
  have e : (b.toNat == 32 || b.toNat == 9) = isBl b := by
    unfold isBl
    rw [Bool.eq_iff_iff]
    simp only [Bool.or_eq_true, beq_iff_eq]
    constructor
    · rintro (h | h)
      · exact .inl (UInt8.toNat_inj.1 h)
      · exact .inr (UInt8.toNat_inj.1 h)
    · rintro (h | h) <;> rw [h]
      · exact .inl rfl
      · exact .inr rfl
  cases hc : (Lib.setCells [32, 9])[b.toNat]? with
  | none => rw [hc] at h; cases h
  | some v =>
    rw [hc] at h
    cases v with
    | bool c =>
      have : c = (b.toNat == 32 || b.toNat == 9) := by simpa using h
      rw [this, e]
    | _ => cases h

theorem ext_size (s : ByteArray) (n : Nat) (h : n ≤ s.size) : (s.extract 0 n).size = n := by rw [ByteArray.size_extract]; omega
theorem ext_all (s : ByteArray) : s.extract 0 s.size = s := by
  apply ByteArray.ext
  simp
theorem ext_get (s : ByteArray) (n j : Nat) (hj : j < n) (hn : n ≤ s.size) (h : j < (s.extract 0 n).size) : (s.extract 0 n)[j] = s.get! j := by
  have h2 : j < s.size := by omega
  have e : s.get! j = s[j] := by
    have : s.data.size = s.size := rfl
    simp [ByteArray.get!, this, h2]
    rfl
  rw [e]
  simp [ByteArray.getElem_extract]
theorem ext_ext (s : ByteArray) (n m : Nat) (h : m ≤ n) : (s.extract 0 n).extract 0 m = s.extract 0 m := by
  rw [ByteArray.extract_extract]
  congr 1
  omega

set_option maxHeartbeats 2000000 in
set_option maxRecDepth 100000 in
theorem trimRight_walk (a0 : ByteArray) (h0 : a0.size ≤ 9223372036854775807) (g : Nat) (w : World) (hk : w.heap[g]? = some (.cells (Lib.setCells [32, 9]) 80 (0, 0))) :
    Calls Tryd.prog 45 #[.string a0, .pointer (some ⟨g, 0, none⟩)] w fun e w' => e = .returned (.string (a0.extract 0 (trimLen a0 a0.size))) ∧ w = w' := by
  have HK := Aside0.mk hk
  have HS := Aside0.mk h0
  clear hk h0
  go_enter Tryd.func45, Tryd.ntmps45
  go_wp2
  go_loopg [0] a0.size (fun gk v0 wx => ∃ t : ByteArray, v0 = .string t ∧ Aside0 (gk ≤ a0.size ∧ t = a0.extract 0 gk ∧ trimLen a0 a0.size = trimLen a0 gk) ∧ wx = w)
  case atStart => exact ⟨a0, rfl, ⟨Nat.le_refl _, (ext_all a0).symm, rfl⟩, rfl⟩
  case round =>
    obtain ⟨t, rfl, HI, rfl⟩ := hrel
    have hts : t.size = gk := by have h := HI.out; rw [h.2.1]; exact ext_size _ _ h.1
    cases gk with
    | zero =>
      have c1 : decide (0 < (t.size : Int)) = false := decide_eq_false (by omega)
      have c2 : decide (0 < t.size) = false := decide_eq_false (by omega)
      clear hts
      go_wp2
      go_ret
      have h := HI.out
      rw [h.2.2, trimLen, h.2.1]
      exact ⟨rfl, rfl⟩
    | succ n =>
      have c1 : decide (0 < (t.size : Int)) = true := decide_eq_true (by omega)
      have c2 : decide (0 < t.size) = true := decide_eq_true (by omega)
      obtain ⟨j, hj⟩ : ∃ j : Int, ((n : Nat) : Int) = j := ⟨_, rfl⟩
      have hw : IntKind.i64.wrap ((t.size : Int) - 1) = j := by
        have := HS.out
        have := HI.out.1
        rw [i64_w, wrap_id (by omega) (by omega)]
        omega
      have p1 : (0 ≤ j) = True := eq_true (by omega)
      have q1 : (j < (t.size : Int)) = True := eq_true (by omega)
      have p2 : decide (0 ≤ j) = true := decide_eq_true (by omega)
      have q2 : (j ≤ (t.size : Int)) = True := eq_true (by omega)
      have q3 : decide (j ≤ (t.size : Int)) = true := decide_eq_true (by omega)
      have HJ := Aside0.mk (show j.toNat = n ∧ n < t.size by omega)
      have hgt : ∀ h, t[j.toNat]'h = a0.get! n := by
        intro h
        obtain ⟨h1, h2, _⟩ := HI.out
        obtain ⟨h3, h4⟩ := HJ.out
        have key : ∀ (m : Nat) (_ : m = n) (h' : m < t.size), t[m] = a0.get! n := by
          rintro m rfl h'
          revert h'
          rw [h2]
          intro h'
          exact ext_get _ _ _ (by omega) h1 h'
        exact key _ h3 h
      have hcl : wr.cell? ⟨g, (a0.get! n).toNat, none⟩ = some (.bool (isBl (a0.get! n))) := (blk_cell HK.out _).trans (set_cell _)
      have HCL := Aside0.mk hcl
      clear hts hj hcl
      cases hb : isBl (a0.get! n) with
      | true =>
        rw [hb] at HCL
        go_wp2_with (go_at_call 50; refine (Tryd.asciiSet_contains g (a0.get! n) true _ HCL.out).mono ?_; rintro e w' ⟨rfl, hw'⟩; cases hw')
        go_roundg n
        case rel =>
          obtain ⟨h1, h2, h3⟩ := HI.out
          exact ⟨_, rfl, ⟨by omega, by rw [HJ.out.1, h2]; exact ext_ext _ _ _ (by omega), by rw [h3, trimLen, if_pos hb]⟩, rfl⟩
        case measure => omega
      | false =>
        rw [hb] at HCL
        go_wp2_with (go_at_call 50; refine (Tryd.asciiSet_contains g (a0.get! n) false _ HCL.out).mono ?_; rintro e w' ⟨rfl, hw'⟩; cases hw')
        go_ret
        obtain ⟨h1, h2, h3⟩ := HI.out
        rw [h3, trimLen, if_neg (by rw [hb]; decide), h2]
        exact ⟨rfl, rfl⟩
set_option maxHeartbeats 2000000 in
set_option maxRecDepth 100000 in
theorem strings_TrimRight.calls (a0 a1 : ByteArray) (r : ByteArray) (w : World) (h : strings_TrimRight.f a0 a1 = some r) :
    Calls Tryd.prog 25 #[.string a0, .string a1] w fun e w' => e = .returned (.string r) ∧ Below w.heap.size w w' := by
  unfold strings_TrimRight.f at h
  by_cases hc : (a1.data.toList == [32, 9] && decide (a0.size ≤ 9223372036854775807)) = true
  rotate_left
  · rw [if_neg hc] at h; cases h
  rw [if_pos hc] at h
  rw [Bool.and_eq_true, beq_iff_eq, decide_eq_true_eq] at hc
  obtain ⟨h1, h2⟩ := hc
  obtain rfl : a1 = ⟨#[32, 9]⟩ := by
    cases a1 with
    | mk d => congr 1; exact Array.toList_inj.1 h1
  clear h1
  have HR := Aside0.mk (Option.some.inj h)
  have HS := Aside0.mk h2
  have hv : ∀ w, (zeroValue 80).run Tryd.prog w = .ok (.agg (Array.replicate 256 (.bool false))) w := fun w => by kernel_rfl
  clear h h2
  by_cases he : a0.toList = []
  · have hz : a0 = ⟨#[]⟩ := by
      rw [Lib.toList_data] at he
      cases a0 with
      | mk d => congr 1; exact Array.toList_inj.1 he
    subst hz
    have e := HR.out
    clear HR HS he hv
    obtain rfl : r = ⟨#[]⟩ := e.symm.trans rfl
    clear e
    go_enter Tryd.func25, Tryd.ntmps25
    go_wp2
    go_ret
    exact ⟨rfl, Below.refl _ _⟩
  have c0 : (a0.toList == []) = false := by simpa using he
  have HE := Aside0.mk he
  clear he
  go_enter Tryd.func25, Tryd.ntmps25
  go_wp2_with (first | (go_at_call 44; refine (Tryd.strings_makeASCIISet hv ⟨#[32, 9]⟩ _ (by decide) (asc_two)).mono ?_; rintro e w' ⟨rfl, rfl⟩) | ((with_reducible refine gate_dst (N := 5) rfl ?_); refine box_event ?hg (N := 5) ?hd (cs := Array.replicate 256 (.bool false)) (t := 80) ?hr ?_; (case hd => rfl); (case hg => rfl); (case hr => first | (go_simp; done) | (go_simp; rfl)); intro gb hgb w1 hbox hb1; have HBX := Aside0.mk hbox; have HB1 := Aside0.mk hb1; have HGB := Aside0.mk hgb; clear hbox hb1 hgb) | ((with_reducible refine gate_store (p := 5) rfl ?_); refine store_whole rfl rfl 80 (.tmp 5) (.tmp 29) rfl gb (Lib.setCells [32, 9]) rfl rfl 80 _ HBX.out (by kernel_rfl) (by kernel_rfl) (by kernel_rfl) ?_; intro w2 hb2 hg2; have HB2 := Aside0.mk hb2; have HG2 := Aside0.mk hg2; clear hb2 hg2) | (go_at_call 45; refine (trimRight_walk a0 HS.out gb _ HB2.out).mono ?_; rintro e w3 ⟨rfl, rfl⟩))
  go_ret
  refine ⟨by rw [HR.out]; rfl, ?_⟩
  have hb := below_step (below_alloc (Below.refl w.heap.size w) (.cells (Lib.setCells [32, 9]) 80)) HB1.out
  exact hb.grown HG2.out hb.size (fun k e => by cases e; rw [HGB.out, World.size_alloc]; omega)
end Go.Proofs.YtdlbmajilmmapaaDoor.F
