/- Texts of this claim, 18 of 19: PureBracketUnions. -/

import Derived.Test.YtcmipoicnonaeaaDoorKU16
import Derived.Test.YtcmipoicnonaeaaDoorKU17
section
namespace Go.Proofs.YtcmipoicnonaeaaDoor.Pure
open Go.RowKit Go.Proofs.YtcmipoicnonaeaaDoor.F Go.Proofs.YtcmipoicnonaeaaDoorW.PrintWords
set_option linter.unusedVariables false
theorem zero_b (s : S4) : (s.1 == 0 && (s.2.1 == 0 && (s.2.2.1 == 0 && (s.2.2.2 == 0)))) = decide (s = zeroS) := by
  obtain ⟨s0, s1, s2, s3⟩ := s
  rw [Bool.eq_iff_iff]
  simp [zeroS]
theorem BracketUnions {s u : S4} (h : okS s) (hu : okS u) : ∃ k, runnellaw03_BracketUnions.f k s.1 s.2.1 s.2.2.1 s.2.2.2 u.1 u.2.1 u.2.2.1 u.2.2.2 = some true := by
  refine ⟨303, ?_⟩
  have h1 : runnellaw03_awake.f 303 = some true := aw_true 3
  have h2 : runnellaw03_awake.f 302 = some true := aw_true 2
  have hz : runnellaw03_BracketUnions.j0 303 true s.1 s.2.1 s.2.2.1 s.2.2.2 u.1 u.2.1 u.2.2.1 u.2.2.2 = some true := by
    rw [show (303 : Nat) = 302 + 1 from rfl, runnellaw03_BracketUnions.j0, if_pos rfl, h2]
    rfl
  unfold runnellaw03_BracketUnions.f
  rw [h1, Option.bind_some, if_pos rfl, zero_b s, zero_b u]
  by_cases hs0 : s = zeroS
  · rw [if_pos (decide_eq_true hs0)]
    exact hz
  rw [if_neg (by simpa using hs0)]
  by_cases hu0 : u = zeroS
  · rw [decide_eq_true hu0]
    exact hz
  rw [decide_eq_false hu0, show (303 : Nat) = 302 + 1 from rfl, runnellaw03_BracketUnions.j0, if_neg (by decide)]
  obtain ⟨T, hT, hTs, hTl⟩ := bText_list h
  obtain ⟨V, hV, hVs, hVl⟩ := bText_list hu
  rw [if_neg hs0, text_R h] at hTl
  rw [if_neg hu0, text_R hu] at hVl
  have hne : membS s ≠ [] := fun q => hs0 ((membL_nil h).1 q)
  have hnu : membS u ≠ [] := fun q => hu0 ((membL_nil hu).1 q)
  obtain ⟨A, hA⟩ : ∃ A, R (membS s).length (membS s) = A := ⟨_, rfl⟩
  obtain ⟨B, hB⟩ : ∃ B, R (membS u).length (membS u) = B := ⟨_, rfl⟩
  rw [hA] at hTl
  rw [hB] at hVl
  have hAl : 0 < A.length := by
    obtain ⟨c, X, e, -⟩ := R_head _ _ hne (Nat.le_refl _)
    rw [← hA, e]
    simp
  have hBl : 0 < B.length := by
    obtain ⟨c, X, e, -⟩ := R_head _ _ hnu (Nat.le_refl _)
    rw [← hB, e]
    simp
  have hTz : T.size = A.length + 2 := by rw [size_list, hTl]; simp
  have hVz : V.size = B.length + 2 := by rw [size_list, hVl]; simp
  rw [hT, Option.bind_some, hV, Option.bind_some, if_neg (by omega), decide_eq_false (show ¬ (V.size : Int) < 3 by omega)]
  rw [show (302 : Nat) = 301 + 1 from rfl, runnellaw03_BracketUnions.j1, if_neg (by decide), wrap_id (by omega) (by omega), if_pos (by omega), if_pos (by omega), if_pos (by omega), show ((T.size : Int) - 1).toNat = T.size - 1 by omega]
  obtain ⟨z, hzz⟩ : ∃ z, T.extract 0 (T.size - 1) ++ V.extract 1 V.size = z := ⟨_, rfl⟩
  have e1 : (T.extract 0 (T.size - 1)).size = T.size - 1 := by rw [ByteArray.size_extract]; omega
  have e2 : (V.extract 1 V.size).size = V.size - 1 := by rw [ByteArray.size_extract]; omega
  rw [hzz, if_pos (by omega)]
  have hzl : z.data.toList = 91 :: (A ++ (B ++ [93])) := by
    rw [← hzz, show (T.extract 0 (T.size - 1) ++ V.extract 1 V.size).data.toList = (T.extract 0 (T.size - 1)).data.toList ++ (V.extract 1 V.size).data.toList by simp, ext_drop, hVl, Lib.extract_data, hTl, hTz, List.drop_zero, show A.length + 2 - 1 = (91 :: A).length by simp, show (91 : UInt8) :: (A ++ [93]) = (91 :: A) ++ [93] from rfl, Nat.sub_zero, List.take_left]
    rfl
  have hzs : z.size = A.length + B.length + 2 := by rw [size_list, hzl]; simp; omega
  have hP : PR true zeroS (A ++ (B ++ [93])) (orS s u) (A.length + (B.length + 1)) := by
    rw [← hA, ← hB]
    have hR2 := R_then (n := (membS u).length) (l := membS u) (Nat.le_refl _) (X := [93]) (by rw [List.head?_cons]; decide)
    refine PR_R _ _ (Nat.le_refl _) true zeroS _ _ _ zeroS_ok hR2 ?_
    rw [addL_memb h]
    refine PR_R _ _ (Nat.le_refl _) _ s [93] _ 1 h (by rw [List.head?_cons]; decide) ?_
    have hm : addL s ((membS u).map UInt8.toNat) = orS s u := by
      have := or_addL h (bytes_lt (membS u))
      rw [addL_memb hu] at this
      exact this.symm
    rw [hm, List.isEmpty_eq_false_iff.2 hnu, Bool.and_false]
    exact .stop _ []
  have hBR : BR false (z.data.toList.drop 0) (orS s u) z.size := by
    refine ⟨_, by rw [List.drop_zero, hzl], .inl ⟨rfl, ?_, _, hP, by omega⟩⟩
    rw [← hA]
    exact head_R hne (Nat.le_refl _) _
  have hp := (BR_parse z (by omega) 0 hBR).2.2
  rw [show ((0 : Nat) : Int) = 0 from rfl, Nat.zero_add] at hp
  have ho := Or_eq h hu 44
  rw [show 257 + 44 = 301 from rfl] at ho
  rw [hp, Option.bind_some, if_pos rfl]
  simp only
  rw [if_pos trivial, ho, Option.bind_some]
  simp [turnS]
end Go.Proofs.YtcmipoicnonaeaaDoor.Pure
end
