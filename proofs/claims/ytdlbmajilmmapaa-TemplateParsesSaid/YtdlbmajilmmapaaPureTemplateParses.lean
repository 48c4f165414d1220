/- Of layer 13 (template): for every text Parse answers what the reference answers. No condition. -/
import Derived.Test.YtdlbmajilmmapaaF7
import Derived.Test.YtdlbmajilmmapaaPureTemplate
namespace Go.Proofs.Ytdlbmajilmmapaa.Pure
open Go.RowKit Go.Proofs.Ytdlbmajilmmapaa.F Go.Proofs.YtdlbmajilmmapaaW.PrintWords Go.Proofs.YtdlbmajilmmapaaW.PrintLast

theorem TemplateParses : runnellaw13_TemplateParses.Pure := by
  intro a0 _
  refine ⟨9000, ?_⟩
  unfold runnellaw13_TemplateParses.f template_Parse.f runnelref13_DocParse.f
  have hw := at_rounds (g := runnellaw13_awake.f) runnellaw13_awake.mono (show 6 ≤ 9000 by omega) awake13
  by_cases h : 4096 < a0.size
  · rw [if_pos h, Option.bind_some, if_pos (by omega), Option.bind_some, hw, Option.bind_some, if_pos rfl, same_list [] (by simp) 9000 (by simp), Option.bind_some, if_pos rfl]
    rfl
  · rw [if_neg h, Option.bind_some, if_neg (by omega)]
    have hp := doc_parse a0 (by omega) a0.size 0 [] a0.data.toList rfl (Nat.zero_le _) (by rw [← size_list]; exact Nat.le_refl _) (Nat.le_refl _) (by simp)
    have hp2 : runnelref13_DocParse.l0 9000 a0 [] ((0 : Nat) : Int) = some (parseT 0 [] a0.data.toList) := at_rounds (g := fun k => runnelref13_DocParse.l0 k a0 [] ((0 : Nat) : Int)) (fun k => (runnelref13_DocParse.mono_l k).1 a0 [] _) (by omega) hp
    rw [show ((0 : Nat) : Int) = 0 from rfl] at hp2
    have hl := parseT_length a0.data.toList.length 0 [] a0.data.toList (Nat.le_refl _)
    rw [← size_list] at hl
    simp only [List.length_nil, Nat.zero_add] at hl
    rw [hp2, Option.bind_some, hw, Option.bind_some, if_pos rfl, same_list _ (by omega) 9000 (by omega), Option.bind_some, if_pos rfl]
    simp

end Go.Proofs.Ytdlbmajilmmapaa.Pure
