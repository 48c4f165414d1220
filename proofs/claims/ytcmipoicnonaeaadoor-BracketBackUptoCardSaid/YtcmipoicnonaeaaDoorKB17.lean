/- Texts of this claim, 17 of 18: PureList4, F11, F3, PureBracketParses, PureBracketBack. -/

import Derived.Test.YtcmipoicnonaeaaDoorKB4
import Derived.Test.YtcmipoicnonaeaaDoorKB10
import Derived.Test.YtcmipoicnonaeaaDoorKB12
import Derived.Test.YtcmipoicnonaeaaDoorKB14
import Derived.Test.YtcmipoicnonaeaaDoorKB15
import Derived.Test.YtcmipoicnonaeaaDoorKB16
section
namespace Go.Proofs.YtcmipoicnonaeaaDoor.F
open Go.RowKit Go.Proofs.YtcmipoicnonaeaaDoorW.PrintWords Go.Proofs.YtcmipoicnonaeaaDoorW.PrintLast
set_option linter.unusedVariables false
set_option linter.unusedSimpArgs false
theorem textL_len (l : List UInt8) : (textL l).length ≤ 2 + 5 * l.length := by
  have h1 := (foldT_len l).1
  have h2 := squeeze_len (foldT l).2
  unfold textL
  simp only [List.length_append, List.length_cons, List.length_nil]
  omega
theorem toI_str (l : List UInt8) : (strOfNums (toI l)).data.toList = l := by
  have := strOf_bts_list l
  rwa [show bts l = toI l from rfl] at this
def membS (s : S4) : List UInt8 := membL s.1 s.2.1 s.2.2.1 s.2.2.2
theorem addL_memb {s : S4} (h : okS s) : addL zeroS ((membS s).map UInt8.toNat) = s := by
  unfold membS
  rw [membL_nat h]
  refine ext4 (addL_ok (memN_lt s) zeroS_ok) h fun c hc => ?_
  rw [has_addL (memN_lt s) hc zeroS_ok, has_zero, Bool.false_or]
  unfold memN
  exact mem_range0 hc (has s)
theorem text_R {s : S4} (h : okS s) : textL (membS s) = 91 :: (R (membS s).length (membS s) ++ [93]) := by
  have := textL_R (l := membS s) (membL_rise h) (Nat.le_refl _)
  rw [this]
  rfl
theorem bText_list {s : S4} (h : okS s) : ∃ T : ByteArray, bracket_Text.f s.1 s.2.1 s.2.2.1 s.2.2.2 = some T ∧ T.size ≤ 2000 ∧ T.data.toList = if s = zeroS then [91, 94, 0, 45, 255, 93] else textL (membS s) := by
  refine ⟨_, Pure.bText_eq h, ?_, ?_⟩
  · rw [size_list]
    have := textL_len (membS s)
    have h2 := membL_len h
    have h3 : (membS s).length ≤ 256 := h2
    split
    · simp
    · rw [toI_str]
      show (textL (membS s)).length ≤ 2000
      omega
  · split
    · rfl
    · exact toI_str _
theorem PR_memb {s : S4} (h : okS s) (hz : s ≠ zeroS) (X : List UInt8) : PR true zeroS (R (membS s).length (membS s) ++ 93 :: X) s ((R (membS s).length (membS s)).length + 1) := by
  have hne : membS s ≠ [] := fun q => hz ((membL_nil h).1 q)
  refine PR_R _ _ (Nat.le_refl _) true zeroS (93 :: X) s 1 zeroS_ok (by rw [List.head?_cons]; decide) ?_
  rw [addL_memb h, Bool.true_and, List.isEmpty_eq_false_iff.2 hne]
  exact .stop s X
theorem head_R {n : Nat} {l : List UInt8} (hl : l ≠ []) (hn : l.length ≤ n) (X : List UInt8) : (R n l ++ X).head? ≠ some 94 := by
  obtain ⟨c, Y, e, -, h2, -⟩ := R_head n l hl hn
  rw [e, List.cons_append, List.head?_cons]
  exact fun q => h2 (Option.some.inj q)
theorem all_set : notS (addL zeroS (List.range' 0 256)) = zeroS := by
  have hl : ∀ b ∈ List.range' 0 256, b < 256 := fun b hb => by rw [List.mem_range'_1] at hb; omega
  refine ext4 (notS_ok (addL_ok hl zeroS_ok)) zeroS_ok fun c hc => ?_
  rw [has_notS (addL_ok hl zeroS_ok) hc, has_addL hl hc zeroS_ok, has_zero, decide_eq_true (List.mem_range'_1.2 ⟨by omega, by omega⟩)]
  rfl
theorem BR_text {s : S4} (h : okS s) : ∃ (T : ByteArray) (nt : Bool) (t : S4), bracket_Text.f s.1 s.2.1 s.2.2.1 s.2.2.2 = some T ∧ T.size ≤ 2000 ∧ turnS nt t = s ∧ ∀ X, BR nt (T.data.toList ++ X) t T.size := by
  obtain ⟨T, hT, hsz, hl⟩ := bText_list h
  by_cases hz : s = zeroS
  · rw [if_pos hz] at hl
    refine ⟨T, true, addL zeroS (List.range' 0 256), hT, hsz, by rw [hz]; exact all_set, fun X => ?_⟩
    rw [hl, size_list, hl]
    refine ⟨_, rfl, .inr ⟨rfl, 0 :: 45 :: 255 :: 93 :: X, 4, rfl, ?_, rfl⟩⟩
    have hr := span_rng (b := 0) (c := 255) (by decide) (by decide) (by decide) (by decide) (X := 93 :: X) (by rw [List.head?_cons]; decide)
    refine .step (n := 3) (m := 1) (.inl rfl) hr ?_
    have hl2 : ∀ b ∈ List.range' 0 256, b < 256 := fun b hb => by rw [List.mem_range'_1] at hb; omega
    have e : orS zeroS (addL zeroS (List.range' (0 : UInt8).toNat ((255 : UInt8).toNat - (0 : UInt8).toNat + 1))) = addL zeroS (List.range' 0 256) := or_addL (l := List.range' 0 256) zeroS_ok hl2
    rw [e]
    exact .stop _ X
  · rw [if_neg hz, text_R h] at hl
    have hne : membS s ≠ [] := fun q => hz ((membL_nil h).1 q)
    refine ⟨T, false, s, hT, hsz, rfl, fun X => ?_⟩
    rw [hl, size_list, hl]
    refine ⟨R (membS s).length (membS s) ++ 93 :: X, by simp, .inl ⟨rfl, head_R hne (Nat.le_refl _) _, _, PR_memb h hz X, by simp⟩⟩
end Go.Proofs.YtcmipoicnonaeaaDoor.F
end
section
namespace Go.Proofs.YtcmipoicnonaeaaDoor.F
open Go.RowKit Go.Proofs.YtcmipoicnonaeaaDoorW.PrintWords Go.Proofs.YtcmipoicnonaeaaDoorW.PrintLast Go.Proofs.YtcmipoicnonaeaaDoorW.PrintMore
attribute [local go_sem] max2_int min2_int max_two min_two max_three min_three max_four min_four
set_option linter.unusedVariables false
set_option linter.unusedSimpArgs false
end Go.Proofs.YtcmipoicnonaeaaDoor.F
end
section
namespace Go.Proofs.YtcmipoicnonaeaaDoor.F
open Go.RowKit Go.Proofs.YtcmipoicnonaeaaDoorW.PrintWords Go.Proofs.YtcmipoicnonaeaaDoorW.PrintLast Go.Proofs.YtcmipoicnonaeaaDoorW.PrintMore
attribute [local go_sem] max2_int min2_int max_two min_two max_three min_three max_four min_four
set_option linter.unusedVariables false
set_option linter.unusedSimpArgs false
attribute [local go_sem high] eqA24
end Go.Proofs.YtcmipoicnonaeaaDoor.F
end
section
namespace Go.Proofs.YtcmipoicnonaeaaDoor.F
open Go.RowKit Go.Proofs.YtcmipoicnonaeaaDoorW.PrintWords Go.Proofs.YtcmipoicnonaeaaDoorW.PrintLast
set_option linter.unusedVariables false
set_option linter.unusedSimpArgs false
theorem aw_true (j : Nat) : runnellaw03_awake.f (300 + j) = some true := by
  have h0 : runnellaw03_awake.f 300 = some true := by kernel_rfl
  exact mono_up (f := runnellaw03_awake.f) runnellaw03_awake.mono h0 j
end Go.Proofs.YtcmipoicnonaeaaDoor.F
namespace Go.Proofs.YtcmipoicnonaeaaDoor.Pure
open Go.RowKit Go.Proofs.YtcmipoicnonaeaaDoor.F Go.Proofs.YtcmipoicnonaeaaDoorW.PrintWords
end Go.Proofs.YtcmipoicnonaeaaDoor.Pure
end
section
namespace Go.Proofs.YtcmipoicnonaeaaDoor.Pure
open Go.RowKit Go.Proofs.YtcmipoicnonaeaaDoor.F Go.Proofs.YtcmipoicnonaeaaDoorW.PrintWords
set_option linter.unusedVariables false
theorem cat_list (a b : ByteArray) : (a ++ b).data.toList = a.data.toList ++ b.data.toList := by simp
theorem BracketBack {s : S4} (h : okS s) (a1 : ByteArray) (b1 : a1.size ≤ 1048576) (a2 : ByteArray) (b2 : a2.size ≤ 1048576) : ∃ k, runnellaw03_BracketBack.f k s.1 s.2.1 s.2.2.1 s.2.2.2 a1 a2 = some true := by
  obtain ⟨T, nt, t, hT, hsz, ht, hB⟩ := BR_text h
  refine ⟨300, ?_⟩
  have h1 : (a1 ++ T).size = a1.size + T.size := by simp
  have h2 : ((a1 ++ T) ++ a2).size = a1.size + T.size + a2.size := by simp
  have hd : ((a1 ++ T) ++ a2).data.toList.drop a1.size = T.data.toList ++ a2.data.toList := by
    rw [cat_list, cat_list, List.append_assoc, size_list a1, List.drop_left]
  have hB2 := hB a2.data.toList
  rw [← hd] at hB2
  have hp := (BR_parse ((a1 ++ T) ++ a2) (by omega) a1.size hB2).2.2
  rw [ht] at hp
  unfold runnellaw03_BracketBack.f
  rw [show (300 : Nat) = 300 + 0 from rfl, aw_true 0, Option.bind_some, if_pos rfl, hT, Option.bind_some, if_pos (by omega), if_pos (by omega), hp, Option.bind_some, if_pos rfl, if_pos (by simp)]
  show some (((a1.size + T.size : Nat) : Int) == wrap64 ((a1.size : Int) + (T.size : Int))) = some true
  rw [wrap_id (by omega) (by omega), beq_iff_eq.2 (by omega)]
end Go.Proofs.YtcmipoicnonaeaaDoor.Pure
end
