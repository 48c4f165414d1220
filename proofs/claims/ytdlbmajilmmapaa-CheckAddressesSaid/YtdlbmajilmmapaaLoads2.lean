/- A struct loaded whole, as one run of the operation. No program text. -/
import Derived.Test.YtdlbmajilmmapaaLoads
namespace Go.Proofs.Ytdlbmajilmmapaa.F
open Go.RowKit Go.Proofs.YtdlbmajilmmapaaW.PrintWords

theorem run_load_op {P : Program} {a : Act} {w : World} {o : Oper} (ty : TypeId) (x : Operand) (ho : o.op = .load ty x) (ad : Addr) (hx : a.eval x = .pointer (some ad)) (cs : List Value) (d : TypeDesc) (hc : ∀ (j : Nat) (v : Value), cs[j]? = some v → w.cell? (ad.add j) = some v)
    (hu : P.underlying ty = some d) (hd : d.isRow = true) (hi : (P.info? ty).map (·.size) = some cs.length) : (execOp a.eval o).run P w = .ok (.value (.agg cs.toArray)) w := by
  unfold execOp
  simp only [ho, hx, Instr.loadAt, Instr.sureAddr, Sem.run_bind, Sem.run_pure, Result.andThen_ok, run_loadVar_any w ad ty cs d hc hu hd hi]
def CellsAt (w : World) (ad : Addr) : Nat → List Value → Prop
  | _, [] => True
  | k, v :: l => w.cell? (ad.add k) = some v ∧ CellsAt w ad (k + 1) l
theorem cells_at {w : World} {ad : Addr} : ∀ {cs : List Value} {k : Nat}, CellsAt w ad k cs → ∀ (j : Nat) (v : Value), cs[j]? = some v → w.cell? (ad.add (k + j)) = some v
  | [], _, _, j, v, hj => by simp at hj
  | u :: l, k, h, 0, v, hj => by
    have e : u = v := by simpa using hj
    subst e
    exact h.1
  | u :: l, k, h, j + 1, v, hj => by
    have := cells_at h.2 j v (by simpa using hj)
    rwa [show k + 1 + j = k + (j + 1) from by omega] at this
theorem cells_all {w : World} {ad : Addr} {cs : List Value} (h : CellsAt w ad 0 cs) (j : Nat) (v : Value) (hj : cs[j]? = some v) : w.cell? (ad.add j) = some v := by
  have := cells_at h j v hj
  rwa [Nat.zero_add] at this
end Go.Proofs.Ytdlbmajilmmapaa.F
