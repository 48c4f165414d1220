/- Of layer 19 (check): blocks within one another and beside one another; one too many. No condition. -/
import Derived.Test.YtdlbmajilmmapaaF4
import Derived.Test.YtdlbmajilmmapaaBytes
namespace Go.Proofs.Ytdlbmajilmmapaa.Pure
open Go.RowKit Go.Proofs.Ytdlbmajilmmapaa.F Go.Proofs.YtdlbmajilmmapaaW.PrintWords Go.Proofs.YtdlbmajilmmapaaW.PrintLast

set_option maxRecDepth 100000 in
theorem blocks_all : ((List.range 20).all fun x => (List.range 30).all fun y => runnellaw19_CheckBlocks.f 100 (x : Int) (y : Int) == some true) = true := by kernel_rfl
theorem blocks_one (x y : Nat) (hx : x < 20) (hy : y < 30) : runnellaw19_CheckBlocks.f 100 (x : Int) (y : Int) = some true := by
  have h := List.all_eq_true.1 blocks_all x (List.mem_range.2 hx)
  have h2 := List.all_eq_true.1 h y (List.mem_range.2 hy)
  exact beq_iff_eq.1 h2
theorem l1_mod {x x' : Int} (h : Int.tmod x 30 = Int.tmod x' 30) : ∀ (k : Nat) (a : Int) (l : List S27) (b c : Int), runnellaw19_CheckBlocks.l1 k x a l b c = runnellaw19_CheckBlocks.l1 k x' a l b c
  | 0, _, _, _, _ => rfl
  | k + 1, a, l, b, c => by rw [runnellaw19_CheckBlocks.l1, runnellaw19_CheckBlocks.l1, l1_mod h k, h]
theorem l0_mod {x x' : Int} (h : Int.tmod x 30 = Int.tmod x' 30) : ∀ (k : Nat) (a : Int) (l : List S27) (b c : Int), runnellaw19_CheckBlocks.l0 k x a l b c = runnellaw19_CheckBlocks.l0 k x' a l b c
  | 0, _, _, _, _ => rfl
  | k + 1, a, l, b, c => by rw [runnellaw19_CheckBlocks.l0, runnellaw19_CheckBlocks.l0, l0_mod h k, l1_mod h k]
theorem blocks_mod {a a' b b' : Int} (h : Int.tmod a 20 = Int.tmod a' 20) (h2 : Int.tmod b 30 = Int.tmod b' 30) (k : Nat) : runnellaw19_CheckBlocks.f k a b = runnellaw19_CheckBlocks.f k a' b' := by
  unfold runnellaw19_CheckBlocks.f
  rw [h, l0_mod h2]
theorem tmod_nat (m n : Nat) : Int.tmod (m : Int) (n : Int) = ((m % n : Nat) : Int) := by
  rw [Int.tmod_eq_emod_of_nonneg (by omega)]
  rfl

theorem CheckBlocks : runnellaw19_CheckBlocks.Pure := by
  intro a b ha hb
  obtain ⟨x, rfl⟩ := u8_of_wf ha
  obtain ⟨y, rfl⟩ := u8_of_wf hb
  refine ⟨100, ?_⟩
  rw [blocks_mod (a' := ((x.toNat % 20 : Nat) : Int)) (b' := ((y.toNat % 30 : Nat) : Int)) ?_ ?_ 100]
  · exact blocks_one _ _ (Nat.mod_lt _ (by decide)) (Nat.mod_lt _ (by decide))
  · rw [show (20 : Int) = ((20 : Nat) : Int) from rfl, tmod_nat, tmod_nat, Nat.mod_mod]
  · rw [show (30 : Int) = ((30 : Nat) : Int) from rfl, tmod_nat, tmod_nat, Nat.mod_mod]
end Go.Proofs.Ytdlbmajilmmapaa.Pure
