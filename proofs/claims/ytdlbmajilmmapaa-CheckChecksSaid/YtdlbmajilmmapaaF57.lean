/- The reference's Same, of two commands that are alike: true. -/
import Derived.Test.YtdlbmajilmmapaaF25
import Derived.Test.YtdlbmajilmmapaaE24
import Derived.Test.YtdlbmajilmmapaaLoads
import Derived.Test.YtdlbmajilmmapaaTold
import Derived.Test.YtdlbmajilmmapaaBytes
import Derived.WalkMore
import Derived.Deep.QuietTactic
import Derived.BigQuiet
namespace Go.Proofs.Ytdlbmajilmmapaa.F
open Go.RowKit Go.Proofs.YtdlbmajilmmapaaW.PrintWords Go.Proofs.YtdlbmajilmmapaaW.PrintLast Go.Proofs.YtdlbmajilmmapaaW.PrintMore
set_option linter.unusedVariables false
set_option linter.unusedSimpArgs false
attribute [local go_sem high] eqA24

theorem parts_self (l : List S117) (hl : l.length ≤ 9007199254740992) : ∀ (n i : Nat), i + n = l.length → runnelref13_Same.l0 (n + 1) l l (i : Int) = some true := by
  intro n
  induction n with
  | zero => intro i h; rw [runnelref13_Same.l0, if_neg (by omega)]
  | succ n ih =>
    intro i h
    rw [runnelref13_Same.l0, if_pos (by omega), if_pos (by omega), if_pos (by omega), if_neg (by simp), wrap_one (by omega)]
    exact ih (i + 1) (by omega)
theorem parts_same (l : List S117) (hl : l.length ≤ 9007199254740992) : runnelref13_Same.f (l.length + 1) l l = some true := by
  unfold runnelref13_Same.f
  rw [if_pos rfl]
  exact parts_self l hl l.length 0 (by omega)

set_option maxHeartbeats 4000000 in
set_option maxRecDepth 100000 in
theorem same_cmd (c : S27) (A1 : Option Addr) (n1 : Nat) (A2 : Option Addr) (n2 : Nat) (b : Bool) (w : World) (h1 : Kd.C k117 w A1 c.f9.length c.f9) (l1 : c.f9.length ≤ n1) (h2 : Kd.C k117 w A2 c.f9.length c.f9) (l2 : c.f9.length ≤ n2) (hp : c.f9.length ≤ 9007199254740992) :
    Calls Try.prog 57 #[.agg #[.int .i64 c.f0, .int .i64 c.f1.f0, .int .i64 c.f1.f1, .string c.f1.f2, .int .i64 c.f2.f0, .int .i64 c.f2.f1, .string c.f2.f2, .bool c.f3, .int .u8 c.f4, .string c.f5, .string c.f6, .string c.f7, .string c.f8, .slice A1 c.f9.length n1, .int .i64 c.f10, .bool c.f11, .bool c.f12, .string c.f13, .string c.f14], .agg #[.int .i64 c.f0, .int .i64 c.f1.f0, .int .i64 c.f1.f1, .string c.f1.f2, .int .i64 c.f2.f0, .int .i64 c.f2.f1, .string c.f2.f2, .bool c.f3, .int .u8 c.f4, .string c.f5, .string c.f6, .string c.f7, .string c.f8, .slice A2 c.f9.length n2, .int .i64 c.f10, .bool c.f11, .bool c.f12, .string c.f13, .string c.f14], .bool b] w fun e w' => e = .returned (.bool true) ∧ Below w.heap.size w w' := by
  have H1 := Aside0.mk h1
  have H2 := Aside0.mk h2
  have L1 := Aside0.mk l1
  have L2 := Aside0.mk l2
  have HP := Aside0.mk (parts_same c.f9 hp)
  clear h1 h2 l1 l2 hp
  go_enter Try.func57, Try.ntmps57
  have q0 : (c.f0 == c.f0) = true := beq_self_eq_true _
  have q1 : (c.f1.f0 == c.f1.f0) = true := beq_self_eq_true _
  have q2 : (c.f1.f1 == c.f1.f1) = true := beq_self_eq_true _
  have q3 : (c.f2.f0 == c.f2.f0) = true := beq_self_eq_true _
  have q4 : (c.f2.f1 == c.f2.f1) = true := beq_self_eq_true _
  have q5 : (c.f4 == c.f4) = true := beq_self_eq_true _
  have q6 : (c.f10 == c.f10) = true := beq_self_eq_true _
  have q7 : (c.f3 == c.f3) = true := beq_self_eq_true _
  have q8 : (c.f11 == c.f11) = true := beq_self_eq_true _
  have q9 : (c.f12 == c.f12) = true := beq_self_eq_true _
  have s0 : (c.f1.f2.toList == c.f1.f2.toList) = true := beq_self_eq_true _
  have s1 : (c.f2.f2.toList == c.f2.f2.toList) = true := beq_self_eq_true _
  have s2 : (c.f5.toList == c.f5.toList) = true := beq_self_eq_true _
  have s3 : (c.f6.toList == c.f6.toList) = true := beq_self_eq_true _
  have s4 : (c.f7.toList == c.f7.toList) = true := beq_self_eq_true _
  have s5 : (c.f8.toList == c.f8.toList) = true := beq_self_eq_true _
  have s6 : (c.f13.toList == c.f13.toList) = true := beq_self_eq_true _
  have s7 : (c.f14.toList == c.f14.toList) = true := beq_self_eq_true _
  have n0 : (c.f0 != c.f0) = false := bne_self_eq_false _
  cases b with
  | false =>
    go_wp2_with (first | ((with_reducible refine gate_dst (N := 3) rfl ?_); refine box_event ?hg (N := 3) ?hd (cs := #[.int .i64 c.f0, .int .i64 c.f1.f0, .int .i64 c.f1.f1, .string c.f1.f2, .int .i64 c.f2.f0, .int .i64 c.f2.f1, .string c.f2.f2, .bool c.f3, .int .u8 c.f4, .string c.f5, .string c.f6, .string c.f7, .string c.f8, .slice A1 c.f9.length n1, .int .i64 c.f10, .bool c.f11, .bool c.f12, .string c.f13, .string c.f14]) (t := 27) ?hr ?_; (case hd => rfl); (case hg => rfl); (case hr => first | (go_simp; done) | (go_simp; rfl)); intro ga hgb wa hbox hb3; have HXa := Aside0.mk hbox; have HBa := Aside0.mk hb3; clear hbox hb3 hgb) | ((with_reducible refine gate_dst (N := 4) rfl ?_); refine box_event ?hg (N := 4) ?hd (cs := #[.int .i64 c.f0, .int .i64 c.f1.f0, .int .i64 c.f1.f1, .string c.f1.f2, .int .i64 c.f2.f0, .int .i64 c.f2.f1, .string c.f2.f2, .bool c.f3, .int .u8 c.f4, .string c.f5, .string c.f6, .string c.f7, .string c.f8, .slice A2 c.f9.length n2, .int .i64 c.f10, .bool c.f11, .bool c.f12, .string c.f13, .string c.f14]) (t := 27) ?hr ?_; (case hd => rfl); (case hg => rfl); (case hr => first | (go_simp; done) | (go_simp; rfl)); intro gb hgb wb hbox hb3; have HXb := Aside0.mk hbox; have HBb := Aside0.mk hb3; clear hbox hb3 hgb; have HXc := Aside0.mk (blk_below HXa.out HBb.out); have HBc := Aside0.mk (below_step HBa.out HBb.out); have ha0 : wb.cell? ⟨ga, 0, none⟩ = some (.int .i64 c.f0) := (blk_cell HXc.out 0).trans rfl; have ha1 : wb.cell? ⟨ga, 1, none⟩ = some (.int .i64 c.f1.f0) := (blk_cell HXc.out 1).trans rfl; have ha2 : wb.cell? ⟨ga, 2, none⟩ = some (.int .i64 c.f1.f1) := (blk_cell HXc.out 2).trans rfl; have ha3 : wb.cell? ⟨ga, 3, none⟩ = some (.string c.f1.f2) := (blk_cell HXc.out 3).trans rfl; have ha4 : wb.cell? ⟨ga, 4, none⟩ = some (.int .i64 c.f2.f0) := (blk_cell HXc.out 4).trans rfl; have ha5 : wb.cell? ⟨ga, 5, none⟩ = some (.int .i64 c.f2.f1) := (blk_cell HXc.out 5).trans rfl; have ha6 : wb.cell? ⟨ga, 6, none⟩ = some (.string c.f2.f2) := (blk_cell HXc.out 6).trans rfl; have ha7 : wb.cell? ⟨ga, 7, none⟩ = some (.bool c.f3) := (blk_cell HXc.out 7).trans rfl; have ha8 : wb.cell? ⟨ga, 8, none⟩ = some (.int .u8 c.f4) := (blk_cell HXc.out 8).trans rfl; have ha9 : wb.cell? ⟨ga, 9, none⟩ = some (.string c.f5) := (blk_cell HXc.out 9).trans rfl; have ha10 : wb.cell? ⟨ga, 10, none⟩ = some (.string c.f6) := (blk_cell HXc.out 10).trans rfl; have ha11 : wb.cell? ⟨ga, 11, none⟩ = some (.string c.f7) := (blk_cell HXc.out 11).trans rfl; have ha12 : wb.cell? ⟨ga, 12, none⟩ = some (.string c.f8) := (blk_cell HXc.out 12).trans rfl; have ha13 : wb.cell? ⟨ga, 13, none⟩ = some (.slice A1 c.f9.length n1) := (blk_cell HXc.out 13).trans rfl; have ha14 : wb.cell? ⟨ga, 14, none⟩ = some (.int .i64 c.f10) := (blk_cell HXc.out 14).trans rfl; have ha15 : wb.cell? ⟨ga, 15, none⟩ = some (.bool c.f11) := (blk_cell HXc.out 15).trans rfl; have ha16 : wb.cell? ⟨ga, 16, none⟩ = some (.bool c.f12) := (blk_cell HXc.out 16).trans rfl; have ha17 : wb.cell? ⟨ga, 17, none⟩ = some (.string c.f13) := (blk_cell HXc.out 17).trans rfl; have ha18 : wb.cell? ⟨ga, 18, none⟩ = some (.string c.f14) := (blk_cell HXc.out 18).trans rfl; have hb0 : wb.cell? ⟨gb, 0, none⟩ = some (.int .i64 c.f0) := (blk_cell HXb.out 0).trans rfl; have hb1 : wb.cell? ⟨gb, 1, none⟩ = some (.int .i64 c.f1.f0) := (blk_cell HXb.out 1).trans rfl; have hb2 : wb.cell? ⟨gb, 2, none⟩ = some (.int .i64 c.f1.f1) := (blk_cell HXb.out 2).trans rfl; have hb3 : wb.cell? ⟨gb, 3, none⟩ = some (.string c.f1.f2) := (blk_cell HXb.out 3).trans rfl; have hb4 : wb.cell? ⟨gb, 4, none⟩ = some (.int .i64 c.f2.f0) := (blk_cell HXb.out 4).trans rfl; have hb5 : wb.cell? ⟨gb, 5, none⟩ = some (.int .i64 c.f2.f1) := (blk_cell HXb.out 5).trans rfl; have hb6 : wb.cell? ⟨gb, 6, none⟩ = some (.string c.f2.f2) := (blk_cell HXb.out 6).trans rfl; have hb7 : wb.cell? ⟨gb, 7, none⟩ = some (.bool c.f3) := (blk_cell HXb.out 7).trans rfl; have hb8 : wb.cell? ⟨gb, 8, none⟩ = some (.int .u8 c.f4) := (blk_cell HXb.out 8).trans rfl; have hb9 : wb.cell? ⟨gb, 9, none⟩ = some (.string c.f5) := (blk_cell HXb.out 9).trans rfl; have hb10 : wb.cell? ⟨gb, 10, none⟩ = some (.string c.f6) := (blk_cell HXb.out 10).trans rfl; have hb11 : wb.cell? ⟨gb, 11, none⟩ = some (.string c.f7) := (blk_cell HXb.out 11).trans rfl; have hb12 : wb.cell? ⟨gb, 12, none⟩ = some (.string c.f8) := (blk_cell HXb.out 12).trans rfl; have hb13 : wb.cell? ⟨gb, 13, none⟩ = some (.slice A2 c.f9.length n2) := (blk_cell HXb.out 13).trans rfl; have hb14 : wb.cell? ⟨gb, 14, none⟩ = some (.int .i64 c.f10) := (blk_cell HXb.out 14).trans rfl; have hb15 : wb.cell? ⟨gb, 15, none⟩ = some (.bool c.f11) := (blk_cell HXb.out 15).trans rfl; have hb16 : wb.cell? ⟨gb, 16, none⟩ = some (.bool c.f12) := (blk_cell HXb.out 16).trans rfl; have hb17 : wb.cell? ⟨gb, 17, none⟩ = some (.string c.f13) := (blk_cell HXb.out 17).trans rfl; have hb18 : wb.cell? ⟨gb, 18, none⟩ = some (.string c.f14) := (blk_cell HXb.out 18).trans rfl) | (go_at_call 25; refine (runnelref13_Same.calls (c.f9.length + 1) A1 n1 c.f9 A2 n2 c.f9 true _ (Kd.C_below H1.out HBc.out) L1.out (Kd.C_below H2.out HBc.out) L2.out HP.out).mono ?_; rintro e' w5 ⟨rfl, hd5⟩; obtain ⟨q5, rfl⟩ := hd5.out))
    go_ret
    exact ⟨rfl, pw_below_drewN HBc.out _⟩
  | true =>
    go_wp2_with (first | ((with_reducible refine gate_dst (N := 3) rfl ?_); refine box_event ?hg (N := 3) ?hd (cs := #[.int .i64 c.f0, .int .i64 c.f1.f0, .int .i64 c.f1.f1, .string c.f1.f2, .int .i64 c.f2.f0, .int .i64 c.f2.f1, .string c.f2.f2, .bool c.f3, .int .u8 c.f4, .string c.f5, .string c.f6, .string c.f7, .string c.f8, .slice A1 c.f9.length n1, .int .i64 c.f10, .bool c.f11, .bool c.f12, .string c.f13, .string c.f14]) (t := 27) ?hr ?_; (case hd => rfl); (case hg => rfl); (case hr => first | (go_simp; done) | (go_simp; rfl)); intro ga hgb wa hbox hb3; have HXa := Aside0.mk hbox; have HBa := Aside0.mk hb3; clear hbox hb3 hgb) | ((with_reducible refine gate_dst (N := 4) rfl ?_); refine box_event ?hg (N := 4) ?hd (cs := #[.int .i64 c.f0, .int .i64 c.f1.f0, .int .i64 c.f1.f1, .string c.f1.f2, .int .i64 c.f2.f0, .int .i64 c.f2.f1, .string c.f2.f2, .bool c.f3, .int .u8 c.f4, .string c.f5, .string c.f6, .string c.f7, .string c.f8, .slice A2 c.f9.length n2, .int .i64 c.f10, .bool c.f11, .bool c.f12, .string c.f13, .string c.f14]) (t := 27) ?hr ?_; (case hd => rfl); (case hg => rfl); (case hr => first | (go_simp; done) | (go_simp; rfl)); intro gb hgb wb hbox hb3; have HXb := Aside0.mk hbox; have HBb := Aside0.mk hb3; clear hbox hb3 hgb; have HXc := Aside0.mk (blk_below HXa.out HBb.out); have HBc := Aside0.mk (below_step HBa.out HBb.out); have ha0 : wb.cell? ⟨ga, 0, none⟩ = some (.int .i64 c.f0) := (blk_cell HXc.out 0).trans rfl; have ha1 : wb.cell? ⟨ga, 1, none⟩ = some (.int .i64 c.f1.f0) := (blk_cell HXc.out 1).trans rfl; have ha2 : wb.cell? ⟨ga, 2, none⟩ = some (.int .i64 c.f1.f1) := (blk_cell HXc.out 2).trans rfl; have ha3 : wb.cell? ⟨ga, 3, none⟩ = some (.string c.f1.f2) := (blk_cell HXc.out 3).trans rfl; have ha4 : wb.cell? ⟨ga, 4, none⟩ = some (.int .i64 c.f2.f0) := (blk_cell HXc.out 4).trans rfl; have ha5 : wb.cell? ⟨ga, 5, none⟩ = some (.int .i64 c.f2.f1) := (blk_cell HXc.out 5).trans rfl; have ha6 : wb.cell? ⟨ga, 6, none⟩ = some (.string c.f2.f2) := (blk_cell HXc.out 6).trans rfl; have ha7 : wb.cell? ⟨ga, 7, none⟩ = some (.bool c.f3) := (blk_cell HXc.out 7).trans rfl; have ha8 : wb.cell? ⟨ga, 8, none⟩ = some (.int .u8 c.f4) := (blk_cell HXc.out 8).trans rfl; have ha9 : wb.cell? ⟨ga, 9, none⟩ = some (.string c.f5) := (blk_cell HXc.out 9).trans rfl; have ha10 : wb.cell? ⟨ga, 10, none⟩ = some (.string c.f6) := (blk_cell HXc.out 10).trans rfl; have ha11 : wb.cell? ⟨ga, 11, none⟩ = some (.string c.f7) := (blk_cell HXc.out 11).trans rfl; have ha12 : wb.cell? ⟨ga, 12, none⟩ = some (.string c.f8) := (blk_cell HXc.out 12).trans rfl; have ha13 : wb.cell? ⟨ga, 13, none⟩ = some (.slice A1 c.f9.length n1) := (blk_cell HXc.out 13).trans rfl; have ha14 : wb.cell? ⟨ga, 14, none⟩ = some (.int .i64 c.f10) := (blk_cell HXc.out 14).trans rfl; have ha15 : wb.cell? ⟨ga, 15, none⟩ = some (.bool c.f11) := (blk_cell HXc.out 15).trans rfl; have ha16 : wb.cell? ⟨ga, 16, none⟩ = some (.bool c.f12) := (blk_cell HXc.out 16).trans rfl; have ha17 : wb.cell? ⟨ga, 17, none⟩ = some (.string c.f13) := (blk_cell HXc.out 17).trans rfl; have ha18 : wb.cell? ⟨ga, 18, none⟩ = some (.string c.f14) := (blk_cell HXc.out 18).trans rfl; have hb0 : wb.cell? ⟨gb, 0, none⟩ = some (.int .i64 c.f0) := (blk_cell HXb.out 0).trans rfl; have hb1 : wb.cell? ⟨gb, 1, none⟩ = some (.int .i64 c.f1.f0) := (blk_cell HXb.out 1).trans rfl; have hb2 : wb.cell? ⟨gb, 2, none⟩ = some (.int .i64 c.f1.f1) := (blk_cell HXb.out 2).trans rfl; have hb3 : wb.cell? ⟨gb, 3, none⟩ = some (.string c.f1.f2) := (blk_cell HXb.out 3).trans rfl; have hb4 : wb.cell? ⟨gb, 4, none⟩ = some (.int .i64 c.f2.f0) := (blk_cell HXb.out 4).trans rfl; have hb5 : wb.cell? ⟨gb, 5, none⟩ = some (.int .i64 c.f2.f1) := (blk_cell HXb.out 5).trans rfl; have hb6 : wb.cell? ⟨gb, 6, none⟩ = some (.string c.f2.f2) := (blk_cell HXb.out 6).trans rfl; have hb7 : wb.cell? ⟨gb, 7, none⟩ = some (.bool c.f3) := (blk_cell HXb.out 7).trans rfl; have hb8 : wb.cell? ⟨gb, 8, none⟩ = some (.int .u8 c.f4) := (blk_cell HXb.out 8).trans rfl; have hb9 : wb.cell? ⟨gb, 9, none⟩ = some (.string c.f5) := (blk_cell HXb.out 9).trans rfl; have hb10 : wb.cell? ⟨gb, 10, none⟩ = some (.string c.f6) := (blk_cell HXb.out 10).trans rfl; have hb11 : wb.cell? ⟨gb, 11, none⟩ = some (.string c.f7) := (blk_cell HXb.out 11).trans rfl; have hb12 : wb.cell? ⟨gb, 12, none⟩ = some (.string c.f8) := (blk_cell HXb.out 12).trans rfl; have hb13 : wb.cell? ⟨gb, 13, none⟩ = some (.slice A2 c.f9.length n2) := (blk_cell HXb.out 13).trans rfl; have hb14 : wb.cell? ⟨gb, 14, none⟩ = some (.int .i64 c.f10) := (blk_cell HXb.out 14).trans rfl; have hb15 : wb.cell? ⟨gb, 15, none⟩ = some (.bool c.f11) := (blk_cell HXb.out 15).trans rfl; have hb16 : wb.cell? ⟨gb, 16, none⟩ = some (.bool c.f12) := (blk_cell HXb.out 16).trans rfl; have hb17 : wb.cell? ⟨gb, 17, none⟩ = some (.string c.f13) := (blk_cell HXb.out 17).trans rfl; have hb18 : wb.cell? ⟨gb, 18, none⟩ = some (.string c.f14) := (blk_cell HXb.out 18).trans rfl) | (go_at_call 25; refine (runnelref13_Same.calls (c.f9.length + 1) A1 n1 c.f9 A2 n2 c.f9 true _ (Kd.C_below H1.out HBc.out) L1.out (Kd.C_below H2.out HBc.out) L2.out HP.out).mono ?_; rintro e' w5 ⟨rfl, hd5⟩; obtain ⟨q5, rfl⟩ := hd5.out))
    go_ret
    exact ⟨rfl, pw_below_drewN HBc.out _⟩
theorem ba_of_toList {a b : ByteArray} (h : a.toList = b.toList) : a = b := by
  rw [Lib.toList_data, Lib.toList_data] at h
  cases a; cases b
  congr 1
  exact Array.toList_inj.1 h
def samePs : List S117 → List S117 → Bool
  | [], [] => true
  | a :: l, b :: m => a.f0 == b.f0 && (a.f1.toList == b.f1.toList && samePs l m)
  | _, _ => false
theorem samePs_eq : ∀ {l m : List S117}, samePs l m = true → l = m
  | [], [], _ => rfl
  | a :: l, b :: m, h => by
    rw [samePs, Bool.and_eq_true, Bool.and_eq_true] at h
    obtain ⟨h1, h2, h3⟩ := h
    have e1 := beq_iff_eq.1 h1
    have e2 := ba_of_toList (beq_iff_eq.1 h2)
    cases a; cases b
    dsimp only at e1 e2
    rw [e1, e2, samePs_eq h3]
  | [], b :: m, h => by cases h
  | a :: l, [], h => by cases h
theorem samePs_self : ∀ l : List S117, samePs l l = true
  | [] => rfl
  | a :: l => by simp [samePs, samePs_self l]
def runnelref18_Same.f (x0 : Int) (x1 : Int) (x2 : Int) (x3 : ByteArray) (x4 : Int) (x5 : Int) (x6 : ByteArray) (x7 : Bool) (x8 : Int) (x9 : ByteArray) (x10 : ByteArray) (x11 : ByteArray) (x12 : ByteArray) (x13 : List S117) (x14 : Int) (x15 : Bool) (x16 : Bool) (x17 : ByteArray) (x18 : ByteArray) (y0 : Int) (y1 : Int) (y2 : Int) (y3 : ByteArray) (y4 : Int) (y5 : Int) (y6 : ByteArray) (y7 : Bool) (y8 : Int) (y9 : ByteArray) (y10 : ByteArray) (y11 : ByteArray) (y12 : ByteArray) (y13 : List S117) (y14 : Int) (y15 : Bool) (y16 : Bool) (y17 : ByteArray) (y18 : ByteArray) (b : Bool) : Option Bool := if ((x0 == y0) && (x1 == y1) && (x2 == y2) && (x3.toList == y3.toList) && (x4 == y4) && (x5 == y5) && (x6.toList == y6.toList) && (x7 == y7) && (x8 == y8) && (x9.toList == y9.toList) && (x10.toList == y10.toList) && (x11.toList == y11.toList) && (x12.toList == y12.toList) && (samePs x13 y13) && (x14 == y14) && (x15 == y15) && (x16 == y16) && (x17.toList == y17.toList) && (x18.toList == y18.toList)) = true then (if x13.length ≤ 9007199254740992 then some true else none) else none
theorem runnelref18_Same.calls (x0 : Int) (x1 : Int) (x2 : Int) (x3 : ByteArray) (x4 : Int) (x5 : Int) (x6 : ByteArray) (x7 : Bool) (x8 : Int) (x9 : ByteArray) (x10 : ByteArray) (x11 : ByteArray) (x12 : ByteArray) (A1 : Option Addr) (n1 : Nat) (x13 : List S117) (x14 : Int) (x15 : Bool) (x16 : Bool) (x17 : ByteArray) (x18 : ByteArray) (y0 : Int) (y1 : Int) (y2 : Int) (y3 : ByteArray) (y4 : Int) (y5 : Int) (y6 : ByteArray) (y7 : Bool) (y8 : Int) (y9 : ByteArray) (y10 : ByteArray) (y11 : ByteArray) (y12 : ByteArray) (A2 : Option Addr) (n2 : Nat) (y13 : List S117) (y14 : Int) (y15 : Bool) (y16 : Bool) (y17 : ByteArray) (y18 : ByteArray) (b : Bool) (r : Bool) (w : World) (hr1 : Kd.C k117 w A1 x13.length x13) (hc1 : x13.length ≤ n1) (hr2 : Kd.C k117 w A2 y13.length y13) (hc2 : y13.length ≤ n2)
    (h : runnelref18_Same.f x0 x1 x2 x3 x4 x5 x6 x7 x8 x9 x10 x11 x12 x13 x14 x15 x16 x17 x18 y0 y1 y2 y3 y4 y5 y6 y7 y8 y9 y10 y11 y12 y13 y14 y15 y16 y17 y18 b = some r) :
    Calls Try.prog 57 #[.agg #[.int .i64 x0, .int .i64 x1, .int .i64 x2, .string x3, .int .i64 x4, .int .i64 x5, .string x6, .bool x7, .int .u8 x8, .string x9, .string x10, .string x11, .string x12, .slice A1 x13.length n1, .int .i64 x14, .bool x15, .bool x16, .string x17, .string x18], .agg #[.int .i64 y0, .int .i64 y1, .int .i64 y2, .string y3, .int .i64 y4, .int .i64 y5, .string y6, .bool y7, .int .u8 y8, .string y9, .string y10, .string y11, .string y12, .slice A2 y13.length n2, .int .i64 y14, .bool y15, .bool y16, .string y17, .string y18], .bool b] w fun e w' => e = .returned (.bool r) ∧ Below w.heap.size w w' := by
  unfold runnelref18_Same.f at h
  split at h
  rotate_left
  · cases h
  split at h
  rotate_left
  · cases h
  obtain rfl := Option.some.inj h
  rename_i hc hl
  simp only [Bool.and_eq_true] at hc
  obtain ⟨⟨⟨⟨⟨⟨⟨⟨⟨⟨⟨⟨⟨⟨⟨⟨⟨⟨h0, h1⟩, h2⟩, h3⟩, h4⟩, h5⟩, h6⟩, h7⟩, h8⟩, h9⟩, h10⟩, h11⟩, h12⟩, h13⟩, h14⟩, h15⟩, h16⟩, h17⟩, h18⟩ := hc
  obtain rfl : x0 = y0 := beq_iff_eq.1 h0
  obtain rfl : x1 = y1 := beq_iff_eq.1 h1
  obtain rfl : x2 = y2 := beq_iff_eq.1 h2
  obtain rfl : x3 = y3 := ba_of_toList (beq_iff_eq.1 h3)
  obtain rfl : x4 = y4 := beq_iff_eq.1 h4
  obtain rfl : x5 = y5 := beq_iff_eq.1 h5
  obtain rfl : x6 = y6 := ba_of_toList (beq_iff_eq.1 h6)
  obtain rfl : x7 = y7 := beq_iff_eq.1 h7
  obtain rfl : x8 = y8 := beq_iff_eq.1 h8
  obtain rfl : x9 = y9 := ba_of_toList (beq_iff_eq.1 h9)
  obtain rfl : x10 = y10 := ba_of_toList (beq_iff_eq.1 h10)
  obtain rfl : x11 = y11 := ba_of_toList (beq_iff_eq.1 h11)
  obtain rfl : x12 = y12 := ba_of_toList (beq_iff_eq.1 h12)
  obtain rfl : x13 = y13 := samePs_eq h13
  obtain rfl : x14 = y14 := beq_iff_eq.1 h14
  obtain rfl : x15 = y15 := beq_iff_eq.1 h15
  obtain rfl : x16 = y16 := beq_iff_eq.1 h16
  obtain rfl : x17 = y17 := ba_of_toList (beq_iff_eq.1 h17)
  obtain rfl : x18 = y18 := ba_of_toList (beq_iff_eq.1 h18)
  exact same_cmd (⟨x0, ⟨x1, x2, x3⟩, ⟨x4, x5, x6⟩, x7, x8, x9, x10, x11, x12, x13, x14, x15, x16, x17, x18⟩ : S27) A1 n1 A2 n2 b w hr1 hc1 hr2 hc2 hl
end Go.Proofs.Ytdlbmajilmmapaa.F
