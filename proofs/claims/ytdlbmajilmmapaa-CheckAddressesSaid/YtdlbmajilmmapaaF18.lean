/- check.Check, at every list of commands: it answers the fault that checkT tells. No condition (but that a label is no longer than a memory). -/
import Derived.Test.YtdlbmajilmmapaaF52
import Derived.Test.YtdlbmajilmmapaaLoads
import Derived.Test.YtdlbmajilmmapaaTold
import Derived.Carry
namespace Go.Proofs.Ytdlbmajilmmapaa.F
open Go.RowKit Go.Maps Go.Proofs.YtdlbmajilmmapaaW.PrintWords Go.Proofs.YtdlbmajilmmapaaW.PrintLast Go.Proofs.YtdlbmajilmmapaaW.PrintMore
set_option linter.unusedVariables false
set_option linter.unusedSimpArgs false

def checkS : List S27 → List (List UInt8) → List Int → Option (Int × Int × List (List UInt8) × List Int)
  | [], ls, op => some (0, 0, ls, op)
  | c :: l, ls, op => (meetF c ls op).bind fun r => if r.1 = 0 then checkS l r.2.1 r.2.2 else some (r.1, c.f0, ls, op)
def checkJ (ls : List (List UInt8)) : List S27 → Int × Int
  | [] => (0, 0)
  | c :: l => if (c.f4 = 98 ∨ c.f4 = 116) ∧ c.f5.size ≠ 0 ∧ c.f5.data.toList ∉ ls then (22, c.f0) else checkJ ls l
def checkE (l : List S27) (r : Int × Int × List (List UInt8) × List Int) : Int × Int :=
  if r.1 = 0 then (if r.2.2.2.length = 0 then checkJ r.2.2.1 l else (23, rd r.2.2.2 ((r.2.2.2.length : Int) - 1))) else (r.1, r.2.1)
/-- The sizes of texts that a memory can hold. -/
def fitC (l : List S27) : Bool := l.all (fun c => decide (c.f5.size ≤ 1152921504606846976))
def check_Check.f (l : List S27) : Option (Int × Int) := if fitC l = true then (checkS l [] []).map (checkE l) else none

theorem cmd_elem {w : World} {A : Option Addr} {n : Nat} {xs : List S27} (h : Kd.C k27 w A n xs) (i : Int) (h0 : 0 ≤ i) (h1 : i < n) :
    ∃ ad Ap cp, A = some ad ∧ (∀ c, rd_T27 xs i = c → (∀ (j : Nat) (v : Value), ([.int .i64 c.f0, .int .i64 c.f1.f0, .int .i64 c.f1.f1, .string c.f1.f2, .int .i64 c.f2.f0, .int .i64 c.f2.f1, .string c.f2.f2, .bool c.f3, .int .u8 c.f4, .string c.f5, .string c.f6, .string c.f7, .string c.f8, .slice Ap c.f9.length cp, .int .i64 c.f10, .bool c.f11, .bool c.f12, .string c.f13, .string c.f14] : List Value)[j]? = some v → w.cell? ((ad.add (i.toNat * 19)).add j) = some v) ∧ c.f9.length ≤ cp ∧ Kd.C k117 w Ap c.f9.length c.f9) := by
  obtain ⟨ad, cs, e, _, hK, hc0⟩ := Kd.C_get h z27 i h0 h1
  obtain ⟨Ap, cp, rfl, l13, g13⟩ := k27_open hK
  refine ⟨ad, Ap, cp, e, ?_⟩
  rintro c rfl
  exact ⟨fun j v hj => by rw [Addr_add_add]; exact hc0 j v hj, l13, g13⟩
theorem drop_cmd (l0 : List S27) (i : Int) (h0 : 0 ≤ i) (h1 : i < l0.length) : l0.drop i.toNat = rd_T27 l0 i :: l0.drop (i + 1).toNat := by
  have hi : i.toNat < l0.length := by omega
  rw [List.drop_eq_getElem_cons hi, show (i + 1).toNat = i.toNat + 1 from by omega]
  congr 1
  unfold rd_T27
  rw [List.getD_eq_getElem?_getD, List.getElem?_eq_getElem hi]
  rfl
theorem meet_open {c : S27} {ls ls' : List (List UInt8)} {op op' : List Int} {r : Int} (h : meetF c ls op = some (r, ls', op')) (hop : op.length ≤ 16) : op'.length ≤ 16 := by
  unfold meetF at h
  obtain ⟨e, _, h⟩ := Option.map_eq_some_iff.1 h
  unfold meetE at h
  (repeat' split at h) <;> simp only [Prod.mk.injEq] at h <;> obtain ⟨_, _, rfl⟩ := h <;> first | exact hop | (rw [List.length_append, List.length_singleton]; omega) | (rw [List.length_take]; omega)

set_option maxHeartbeats 8000000 in
set_option maxRecDepth 100000 in
theorem check_Check.calls (A0 : Option Addr) (c0 : Nat) (l0 : List S27) (r1 : Int) (r2 : Int) (w : World) (hr0 : Kd.C k27 w A0 l0.length l0) (hc0 : l0.length ≤ c0) (h : check_Check.f l0 = some (r1, r2)) :
    Calls Try.prog 18 #[.slice A0 l0.length c0] w fun e w' => e = .returned (.agg #[.int .i64 r1, .int .i64 r2]) ∧ Below w.heap.size w w' := by
  have HR0 := Aside0.mk hr0
  have hm0 : l0.length ≤ 9223372036854775807 := Kd.C_max hr0
  unfold check_Check.f at h
  by_cases hfit : fitC l0 = true
  rotate_left
  · rw [if_neg hfit] at h; cases h
  rw [if_pos hfit] at h
  unfold fitC at hfit
  rw [List.all_eq_true] at hfit
  have HZ := Aside0.mk (show ∀ p ∈ l0, p.f5.size ≤ 1152921504606846976 from fun p hp => of_decide_eq_true (hfit p hp))
  obtain ⟨R, hS, hE⟩ := Option.map_eq_some_iff.1 h
  have H := Aside0.mk hS
  have HEnd := Aside0.mk hE
  have HN := Aside0.mk (show ∀ W : World, Below w.heap.size w W → Kd.C k27 W A0 l0.length l0 from fun W hW => Kd.C_below hr0 hW)
  clear h hr0 hc0 hfit hS hE
  have hmm := @run_makeMap Try.prog
  go_enter Try.func18, Try.ntmps18
  go_wp2
  have HW1 := Aside0.mk (⟨blk_new w (.cells #[.int .i64 0, .int .i64 0] 30 (0, 0)), below_alloc (Below.refl _ _) _, by rw [World.size_alloc]⟩ : (w.alloc (.cells #[.int .i64 0, .int .i64 0] 30 (0, 0))).heap[w.heap.size]? = some (.cells #[.int .i64 0, .int .i64 0] 30 (0, 0)) ∧ Below w.heap.size w (w.alloc (.cells #[.int .i64 0, .int .i64 0] 30 (0, 0))) ∧ (w.alloc (.cells #[.int .i64 0, .int .i64 0] 30 (0, 0))).heap.size = w.heap.size + 1)
  generalize (w.alloc (Obj.cells #[.int .i64 0, .int .i64 0] 30 (0, 0))) = w1 at HW1 ⊢
  have hsz1 := HW1.out.2.2
  have HM : Aside0 (IsBook w1 ((w1.alloc (.map #[] 0)).alloc (.cells #[.map (some (w.heap.size + 1)), .slice none 0 0] 104 (0, 0))) (w.heap.size + 1 + 1) (w.heap.size + 1) 0 [] []) := by
    refine ⟨⟨_, .map [], ?_, Kd.R_nil _ _ _ _ _, ?_, hasL_nil, by omega, by omega, below_alloc (below_alloc (Below.refl _ _) _) _⟩⟩
    · have h := blk_new (w1.alloc (.map #[] 0)) (.cells #[.map (some (w.heap.size + 1)), .slice none 0 0] 104 (0, 0))
      rw [World.size_alloc, hsz1] at h
      exact h
    · have h := (World.ownsMap_made (H := Unit) w1 Try.prog 9 (plainElem Try.prog 3)).alloc (.cells #[.map (some (w.heap.size + 1)), .slice none 0 0] 104 (0, 0))
      rw [hsz1] at h
      exact h
  clear hsz1
  generalize (w1.alloc (Obj.map #[] 0)).alloc (Obj.cells #[.map (some (w.heap.size + 1)), .slice none 0 0] 104 (0, 0)) = w2 at HM ⊢
  obtain ⟨g, hg⟩ : ∃ g, w.heap.size + 1 + 1 = g := ⟨_, rfl⟩
  rw [hg] at HM ⊢
  obtain ⟨bm, hbm⟩ : ∃ b, w.heap.size + 1 = b := ⟨_, rfl⟩
  rw [hbm] at HM
  (try rw [hbm])
  clear hg
  go_loopg [15] l0.length (fun gk v15 wr => ∃ (i : Int) (ls : List (List UInt8)) (op : List Int), v15 = .int .i64 i ∧ Aside0 (0 ≤ i ∧ i + gk = l0.length ∧ op.length ≤ 16) ∧ Aside0 (checkS (l0.drop i.toNat) ls op = some R) ∧ Aside0 (IsBook w1 wr g bm i.toNat ls op))
  case atStart => exact ⟨0, [], [], rfl, ⟨by omega, by omega, by simp⟩, H, HM⟩
  case round =>
    clear H HM
    obtain ⟨i, ls, op, rfl, HI, HS, HB⟩ := hrel
    have HWB := Aside0.mk (below_step HW1.out.2.1 HB.out.isBelow)
    cases gk with
    | zero =>
      have c1 : decide (i < (l0.length : Int)) = false := decide_eq_false (by have := HI.out.2.1; omega)
      have hS := HS.out
      rw [List.drop_eq_nil_of_le (by have := HI.out.2.1; omega), checkS] at hS
      obtain rfl := Option.some.inj hS
      have hE := HEnd.out
      clear HS HEnd
      unfold checkE at hE
      simp only [if_pos] at hE
      have HQ0 := Aside0.mk (blk_below HW1.out.1 HB.out.isBelow)
      obtain ⟨v, D, hblk, hR, hown, hL, hgg, hgb, hBB⟩ := HB.out
      obtain ⟨Av, cv, rfl⟩ := Kd.R_slice hR
      have HR := Aside0.mk hR
      have hg0 : wr.cell? ⟨g, 0, none⟩ = some (.map (some bm)) := (blk_cell hblk 0).trans rfl
      have hg1 : wr.cell? ⟨g, 1, none⟩ = some (.slice Av op.length cv) := (blk_cell hblk 1).trans rfl
      clear hblk hR hown hL hgg hgb hBB
      by_cases c2 : op.length = 0
      · rw [if_pos c2] at hE
        obtain rfl := List.length_eq_zero_iff.1 c2
        have HJ0 := Aside0.mk hE
        simp only [List.length_nil] at hg1
        clear hE c2
        go_wp2
        go_loopg [47] l0.length (fun gk v47 wj => ∃ (j : Int), v47 = .int .i64 j ∧ Aside0 (0 ≤ j ∧ j + gk = l0.length) ∧ Aside0 (checkJ ls (l0.drop j.toNat) = (r1, r2)) ∧ Aside0 (Below wr.heap.size wr wj))
        case atStart => exact ⟨0, rfl, ⟨by omega, by omega⟩, HJ0, ⟨Below.refl _ _⟩⟩
        case round =>
          clear HJ0
          obtain ⟨j, rfl, HJ, HSJ, HBJ⟩ := hrel
          have HQ := Aside0.mk (blk_below HQ0.out HBJ.out)
          have hq0 : wr.cell? ⟨w.heap.size, 0, none⟩ = some (.int .i64 0) := (blk_cell HQ.out 0).trans rfl
          have hq1 : wr.cell? ⟨w.heap.size, 1, none⟩ = some (.int .i64 0) := (blk_cell HQ.out 1).trans rfl
          have hf0 : wr.frozen? ⟨w.heap.size, 0, none⟩ = false := blk_frozen HQ.out 0
          have hf1 : wr.frozen? ⟨w.heap.size, 1, none⟩ = false := blk_frozen HQ.out 1
          have HWJ := Aside0.mk (below_step HWB.out HBJ.out)
          cases gk with
          | zero =>
            have c3 : decide (j < (l0.length : Int)) = false := decide_eq_false (by have := HJ.out.2; omega)
            have hS := HSJ.out
            rw [List.drop_eq_nil_of_le (by have := HJ.out.2; omega), checkJ] at hS
            simp only [Prod.mk.injEq] at hS
            obtain ⟨rfl, rfl⟩ := hS
            clear HSJ
            go_wp2
            have hb2 := blk_set (blk_set HQ.out 0 (.int .i64 0)) 1 (.int .i64 0)
            refine bodyPost_ret (results_cell_row rfl _ _ w.heap.size 30 #[.int .i64 0, .int .i64 0] (0, 0) _ rfl hb2 Try.underlying30 rfl (by kernel_rfl)) rfl ?_
            exact ⟨rfl, below_set (below_set (HWJ.out) (Nat.le_refl _)) (Nat.le_refl _)⟩
          | succ gk =>
            have h0 := HJ.out.1
            have hlt : j < (l0.length : Int) := by have := HJ.out.2; omega
            have c3 : decide (j < (l0.length : Int)) = true := decide_eq_true hlt
            obtain ⟨ad, Ap, cp, hA, hce⟩ := cmd_elem (HN.out _ HWJ.out) j h0 hlt
            subst hA
            obtain ⟨c, hc⟩ : ∃ c, rd_T27 l0 j = c := ⟨_, rfl⟩
            have hS := HSJ.out
            rw [drop_cmd l0 j h0 hlt, checkJ, hc] at hS
            obtain ⟨hcell, hcp, hcC⟩ := hce c hc
            have HE := Aside0.mk hcell
            have hcz : c.f5.size ≤ 1152921504606846976 := HZ.out c (by rw [← hc]; unfold rd_T27; rw [List.getD_eq_getElem?_getD, List.getElem?_eq_getElem (by omega)]; exact List.getElem_mem _)
            have HCZ := Aside0.mk hcz
            have hjn : IntKind.i64.wrap (j + 1) = j + 1 := by rw [i64_w]; exact wrap_id (by omega) (by omega)
            have p1 : (0 ≤ j) = True := eq_true h0
            have q1 : (j < (l0.length : Int)) = True := eq_true hlt
            have HB2 : Aside0 (IsBook w1 wr g bm i.toNat ls []) := ⟨HB.out.below HBJ.out⟩
            have HS2 := Aside0.mk hS
            clear hce hcell hcp hcC hS hc h0 hlt hcz hq0 hq1 hf0 hf1
            go_wp2_with (first | ((with_reducible refine gate_dst (N := 50) rfl ?_); refine wpList_load_any rfl 27 (.tmp 49) rfl _ rfl [.int .i64 c.f0, .int .i64 c.f1.f0, .int .i64 c.f1.f1, .string c.f1.f2, .int .i64 c.f2.f0, .int .i64 c.f2.f1, .string c.f2.f2, .bool c.f3, .int .u8 c.f4, .string c.f5, .string c.f6, .string c.f7, .string c.f8, .slice Ap c.f9.length cp, .int .i64 c.f10, .bool c.f11, .bool c.f12, .string c.f13, .string c.f14] _ HE.out Try.underlying27 rfl (by kernel_rfl) ?_) | ((with_reducible refine gate_dst (N := 9) rfl ?_); refine box_event ?hg (N := 9) ?hd (cs := #[.int .i64 0, .int .i64 0, .int .i64 0, .string ⟨#[]⟩, .int .i64 0, .int .i64 0, .string ⟨#[]⟩, .bool false, .int .u8 0, .string ⟨#[]⟩, .string ⟨#[]⟩, .string ⟨#[]⟩, .string ⟨#[]⟩, .slice none 0 0, .int .i64 0, .bool false, .bool false, .string ⟨#[]⟩, .string ⟨#[]⟩]) (t := 27) ?hr ?_; (case hd => rfl); (case hg => rfl); (case hr => first | (go_simp; done) | (go_simp; rfl)); intro gb hgb w3 hbox hb3; have HBX := Aside0.mk hbox; have HB3 := Aside0.mk hb3; have HGB := Aside0.mk hgb; clear hbox hb3 hgb) | (refine store_whole rfl rfl 27 (.tmp 9) (.tmp 50) rfl gb #[.int .i64 c.f0, .int .i64 c.f1.f0, .int .i64 c.f1.f1, .string c.f1.f2, .int .i64 c.f2.f0, .int .i64 c.f2.f1, .string c.f2.f2, .bool c.f3, .int .u8 c.f4, .string c.f5, .string c.f6, .string c.f7, .string c.f8, .slice Ap c.f9.length cp, .int .i64 c.f10, .bool c.f11, .bool c.f12, .string c.f13, .string c.f14] rfl rfl 27 _ HBX.out (by kernel_rfl) rfl (by simp [Value.oneCell']) ?_; intro w4 hbox4 hg4; have HBY := Aside0.mk hbox4; have HB4 := Aside0.mk (pw_below_grown HB3.out _ HB3.out.size hg4 (fun k hk => by injection hk with hk; have := HGB.out; omega)); clear hbox4 hg4))
            simp only [Act.put, List.setIfInBounds_toArray, List.set_cons_succ, List.set_cons_zero]
            obtain ⟨v, D, hblk, hR, hown, hL, hgg, hgb, hBB⟩ := IsBook.below HB2.out HB4.out
            have HL := Aside0.mk hL
            have HO := Aside0.mk hown
            have hk0 : w4.cell? ⟨gb, 0, none⟩ = some (.int .i64 c.f0) := (blk_cell HBY.out 0).trans rfl
            have hk8 : w4.cell? ⟨gb, 8, none⟩ = some (.int .u8 c.f4) := (blk_cell HBY.out 8).trans rfl
            have hk9 : w4.cell? ⟨gb, 9, none⟩ = some (.string c.f5) := (blk_cell HBY.out 9).trans rfl
            have hg4 : w4.cell? ⟨g, 0, none⟩ = some (.map (some bm)) := (blk_cell hblk 0).trans rfl
            have HQ4 := Aside0.mk (blk_below HQ.out HB4.out)
            have HW4 := Aside0.mk (below_step HWJ.out HB4.out)
            have hq0 : w4.cell? ⟨w.heap.size, 0, none⟩ = some (.int .i64 0) := (blk_cell HQ4.out 0).trans rfl
            have hq1 : w4.cell? ⟨w.heap.size, 1, none⟩ = some (.int .i64 0) := (blk_cell HQ4.out 1).trans rfl
            have hf0 : w4.frozen? ⟨w.heap.size, 0, none⟩ = false := blk_frozen HQ4.out 0
            have hf1 : w4.frozen? ⟨w.heap.size, 1, none⟩ = false := blk_frozen HQ4.out 1
            clear hblk hR hown hL hgg hgb hBB
            have hkey : keyOf Try.prog 9 (.string c.f5) = some (.string c.f5.data.toList) := WideMaps.keyOf_string_mk Try.underlying9 (by have := HCZ.out; unfold maxLen; omega)
            have hlook : ∀ q, (Instr.lookup 101 (.map (some bm)) (.string c.f5) false).run Try.prog (w4.drewN q) = .ok (.int .i64 (if c.f5.data.toList ∈ ls then 1 else 0)) (w4.drewN q) := by
              intro q
              obtain ⟨x, hrun, hat, _⟩ := (map_drewN HO.out q).lookup_int (string_keyed Try.underlying9) Try.underlying101 Try.underlying3 (by kernel_rfl) hkey
              rw [HL.out.2] at hat
              injection hat with hat
              injection hat with _ hat
              rw [hrun, hat]
            clear hkey
            have htl : c.f5.toList = c.f5.data.toList := Lib.toList_data c.f5
            have hse : c.f5.size = c.f5.data.toList.length := size_list c.f5
            have hS := HS2.out
            by_cases d3 : c.f5.size = 0
            · have d3b : (c.f5.toList != ([] : List UInt8)) = false := by rw [htl, List.length_eq_zero_iff.1 (show c.f5.data.toList.length = 0 by rw [← hse]; exact d3)]; rfl
              have d3c : (c.f5.toList == ([] : List UInt8)) = true := by rw [htl, List.length_eq_zero_iff.1 (show c.f5.data.toList.length = 0 by rw [← hse]; exact d3)]; rfl
              rw [if_neg (fun h => h.2.1 d3)] at hS
              have HS3 := Aside0.mk hS
              clear htl hse d3 hS hlook
              by_cases d1 : c.f4 = 98
              · have d1b : (c.f4 == 98) = true := beq_iff_eq.mpr d1
                clear d1
                go_big_quiet (fail)
                go_wp2
                go_roundg gk
                case rel => exact ⟨j + 1, rfl, ⟨by have := HJ.out.1; omega, by have := HJ.out.2; omega⟩, HS3, ⟨pw_below_drewN (below_step HBJ.out HB4.out) _⟩⟩
                case measure => omega
              have d1b : (c.f4 == 98) = false := beq_eq_false_iff_ne.mpr d1
              by_cases d2 : c.f4 = 116
              · have d2b : (c.f4 == 116) = true := beq_iff_eq.mpr d2
                clear d1 d2
                go_big_quiet (fail)
                go_wp2
                go_roundg gk
                case rel => exact ⟨j + 1, rfl, ⟨by have := HJ.out.1; omega, by have := HJ.out.2; omega⟩, HS3, ⟨pw_below_drewN (below_step HBJ.out HB4.out) _⟩⟩
                case measure => omega
              · have d2b : (c.f4 == 116) = false := beq_eq_false_iff_ne.mpr d2
                clear d1 d2
                go_big_quiet (fail)
                go_wp2
                go_roundg gk
                case rel => exact ⟨j + 1, rfl, ⟨by have := HJ.out.1; omega, by have := HJ.out.2; omega⟩, HS3, ⟨pw_below_drewN (below_step HBJ.out HB4.out) _⟩⟩
                case measure => omega
            have d3b : (c.f5.toList != ([] : List UInt8)) = true := by
              rw [htl]
              refine bne_iff_ne.2 fun e => d3 ?_
              rw [hse, e]
              rfl
            have d3c : (c.f5.toList == ([] : List UInt8)) = false := bne_iff_ne.1 d3b |> beq_eq_false_iff_ne.2
            by_cases d4 : c.f5.data.toList ∈ ls
            · rw [if_neg (fun h => h.2.2 d4)] at hS
              have HS3 := Aside0.mk hS
              simp only [if_pos d4] at hlook
              clear htl hse d3 hS d4
              by_cases d1 : c.f4 = 98
              · have d1b : (c.f4 == 98) = true := beq_iff_eq.mpr d1
                clear d1
                go_big_quiet (fail)
                go_wp2
                go_roundg gk
                case rel => exact ⟨j + 1, rfl, ⟨by have := HJ.out.1; omega, by have := HJ.out.2; omega⟩, HS3, ⟨pw_below_drewN (below_step HBJ.out HB4.out) _⟩⟩
                case measure => omega
              have d1b : (c.f4 == 98) = false := beq_eq_false_iff_ne.mpr d1
              by_cases d2 : c.f4 = 116
              · have d2b : (c.f4 == 116) = true := beq_iff_eq.mpr d2
                clear d1 d2
                go_big_quiet (fail)
                go_wp2
                go_roundg gk
                case rel => exact ⟨j + 1, rfl, ⟨by have := HJ.out.1; omega, by have := HJ.out.2; omega⟩, HS3, ⟨pw_below_drewN (below_step HBJ.out HB4.out) _⟩⟩
                case measure => omega
              · have d2b : (c.f4 == 116) = false := beq_eq_false_iff_ne.mpr d2
                clear d1 d2
                go_big_quiet (fail)
                go_wp2
                go_roundg gk
                case rel => exact ⟨j + 1, rfl, ⟨by have := HJ.out.1; omega, by have := HJ.out.2; omega⟩, HS3, ⟨pw_below_drewN (below_step HBJ.out HB4.out) _⟩⟩
                case measure => omega
            simp only [if_neg d4] at hlook
            by_cases d1 : c.f4 = 98
            · have d1b : (c.f4 == 98) = true := beq_iff_eq.mpr d1
              rw [if_pos ⟨.inl d1, d3, d4⟩] at hS
              simp only [Prod.mk.injEq] at hS
              obtain ⟨rfl, rfl⟩ := hS
              clear htl hse d3 d4 d1 HS2 HSJ
              go_big_quiet (fail)
              go_wp2
              have hb2 := blk_set (blk_set (blk_drewN HQ4.out nq) 0 (.int .i64 22)) 1 (.int .i64 c.f0)
              refine bodyPost_ret (results_cell_row rfl _ _ w.heap.size 30 #[.int .i64 22, .int .i64 c.f0] (0, 0) _ rfl hb2 Try.underlying30 rfl (by kernel_rfl)) rfl ?_
              exact ⟨rfl, below_set (below_set (pw_below_drewN HW4.out _) (Nat.le_refl _)) (Nat.le_refl _)⟩
            have d1b : (c.f4 == 98) = false := beq_eq_false_iff_ne.mpr d1
            by_cases d2 : c.f4 = 116
            · have d2b : (c.f4 == 116) = true := beq_iff_eq.mpr d2
              rw [if_pos ⟨.inr d2, d3, d4⟩] at hS
              simp only [Prod.mk.injEq] at hS
              obtain ⟨rfl, rfl⟩ := hS
              clear htl hse d3 d4 d1 d2 HS2 HSJ
              go_big_quiet (fail)
              go_wp2
              have hb2 := blk_set (blk_set (blk_drewN HQ4.out nq) 0 (.int .i64 22)) 1 (.int .i64 c.f0)
              refine bodyPost_ret (results_cell_row rfl _ _ w.heap.size 30 #[.int .i64 22, .int .i64 c.f0] (0, 0) _ rfl hb2 Try.underlying30 rfl (by kernel_rfl)) rfl ?_
              exact ⟨rfl, below_set (below_set (pw_below_drewN HW4.out _) (Nat.le_refl _)) (Nat.le_refl _)⟩
            · have d2b : (c.f4 == 116) = false := beq_eq_false_iff_ne.mpr d2
              rw [if_neg (fun h => h.1.elim d1 d2)] at hS
              have HS3 := Aside0.mk hS
              clear htl hse d3 d4 d1 d2 hS
              go_big_quiet (fail)
              go_wp2
              go_roundg gk
              case rel => exact ⟨j + 1, rfl, ⟨by have := HJ.out.1; omega, by have := HJ.out.2; omega⟩, HS3, ⟨pw_below_drewN (below_step HBJ.out HB4.out) _⟩⟩
              case measure => omega

      · rw [if_neg c2] at hE
        have c2b : decide ((0 : Int) < (op.length : Int)) = true := decide_eq_true (by omega)
        have c2n : (0 < op.length) = True := eq_true (by omega)
        have c2m : (op = []) = False := eq_false (fun e => c2 (by rw [e]; rfl))
        simp only [Prod.mk.injEq] at hE
        obtain ⟨rfl, hE⟩ := hE
        have HQ := HQ0
        have hq0 : wr.cell? ⟨w.heap.size, 0, none⟩ = some (.int .i64 0) := (blk_cell HQ.out 0).trans rfl
        have hq1 : wr.cell? ⟨w.heap.size, 1, none⟩ = some (.int .i64 0) := (blk_cell HQ.out 1).trans rfl
        have hf0 : wr.frozen? ⟨w.heap.size, 0, none⟩ = false := blk_frozen HQ.out 0
        have hf1 : wr.frozen? ⟨w.heap.size, 1, none⟩ = false := blk_frozen HQ.out 1
        obtain ⟨go, co, eo, gb, gl, cl, HG2⟩ := Kd.R_form HR.out (by omega)
        injection eo with ea _ ec
        subst ea; subst ec
        obtain ⟨m, hm⟩ : ∃ m : Int, (op.length : Int) - 1 = m := ⟨_, rfl⟩
        have hop := HI.out.2.2
        have hmw : IntKind.i64.wrap ((op.length : Int) - 1) = m := by rw [i64_w, wrap_id (by omega) (by omega)]; exact hm
        have p1 : (0 ≤ m) = True := eq_true (by omega)
        have q1 : (m < (op.length : Int)) = True := eq_true (by omega)
        have hcm := (Kd.R_celln (enc := Value.int .i64) 0 HR.out m (by omega) (by omega)).1
        rw [hm] at hE
        subst hE
        clear c2 hm hop gb gl cl HG2
        go_wp2
        have hb2 := blk_set (blk_set HQ.out 0 (.int .i64 23)) 1 (.int .i64 (rd op m))
        refine bodyPost_ret (results_cell_row rfl _ _ w.heap.size 30 #[.int .i64 23, .int .i64 (rd op m)] (0, 0) _ rfl hb2 Try.underlying30 rfl (by kernel_rfl)) rfl ?_
        exact ⟨rfl, below_set (below_set (HWB.out) (Nat.le_refl _)) (Nat.le_refl _)⟩
    | succ gk =>
      have h0 := HI.out.1
      have hlt : i < (l0.length : Int) := by have := HI.out.2.1; omega
      have c1 : decide (i < (l0.length : Int)) = true := decide_eq_true hlt
      obtain ⟨ad, Ap, cp, hA, hce⟩ := cmd_elem (HN.out _ HWB.out) i h0 hlt
      subst hA
      have hS := HS.out
      rw [drop_cmd l0 i h0 hlt, checkS] at hS
      obtain ⟨c, hc⟩ : ∃ c, rd_T27 l0 i = c := ⟨_, rfl⟩
      rw [hc] at hS
      obtain ⟨hcell, hcp, hcC⟩ := hce c hc
      have HE := Aside0.mk hcell
      have HCP := Aside0.mk hcp
      have HC := Aside0.mk hcC
      obtain ⟨⟨r, ls', op'⟩, hm, hS⟩ := Option.bind_eq_some_iff.1 hS
      have HM := Aside0.mk hm
      have HNM := Aside0.mk (show i.toNat < maxLen by unfold maxLen; omega)
      have hin : IntKind.i64.wrap (i + 1) = i + 1 := by rw [i64_w]; exact wrap_id (by omega) (by omega)
      have p1 : (0 ≤ i) = True := eq_true h0
      have q1 : (i < (l0.length : Int)) = True := eq_true hlt
      have HIP := Aside0.mk (And.intro h0 hlt)
      clear hce hcell hcp hcC hm HS hc h0 hlt
      dsimp only at hS
      by_cases c2 : r = 0
      · subst c2
        rw [if_pos rfl] at hS
        have HS2 := Aside0.mk hS
        clear hS
        go_wp2_with (first | ((with_reducible refine gate_dst (N := 18) rfl ?_); refine wpList_load_any rfl 27 (.tmp 17) rfl _ rfl [.int .i64 c.f0, .int .i64 c.f1.f0, .int .i64 c.f1.f1, .string c.f1.f2, .int .i64 c.f2.f0, .int .i64 c.f2.f1, .string c.f2.f2, .bool c.f3, .int .u8 c.f4, .string c.f5, .string c.f6, .string c.f7, .string c.f8, .slice Ap c.f9.length cp, .int .i64 c.f10, .bool c.f11, .bool c.f12, .string c.f13, .string c.f14] _ HE.out Try.underlying27 rfl (by kernel_rfl) ?_) | ((with_reducible refine gate_dst (N := 5) rfl ?_); refine box_event ?hg (N := 5) ?hd (cs := #[.int .i64 0, .int .i64 0, .int .i64 0, .string ⟨#[]⟩, .int .i64 0, .int .i64 0, .string ⟨#[]⟩, .bool false, .int .u8 0, .string ⟨#[]⟩, .string ⟨#[]⟩, .string ⟨#[]⟩, .string ⟨#[]⟩, .slice none 0 0, .int .i64 0, .bool false, .bool false, .string ⟨#[]⟩, .string ⟨#[]⟩]) (t := 27) ?hr ?_; (case hd => rfl); (case hg => rfl); (case hr => first | (go_simp; done) | (go_simp; rfl)); intro gb hgb w3 hbox hb3; have HBX := Aside0.mk hbox; have HB3 := Aside0.mk hb3; have HGB := Aside0.mk hgb; clear hbox hb3 hgb) | (refine store_whole rfl rfl 27 (.tmp 5) (.tmp 18) rfl gb #[.int .i64 c.f0, .int .i64 c.f1.f0, .int .i64 c.f1.f1, .string c.f1.f2, .int .i64 c.f2.f0, .int .i64 c.f2.f1, .string c.f2.f2, .bool c.f3, .int .u8 c.f4, .string c.f5, .string c.f6, .string c.f7, .string c.f8, .slice Ap c.f9.length cp, .int .i64 c.f10, .bool c.f11, .bool c.f12, .string c.f13, .string c.f14] rfl rfl 27 _ HBX.out (by kernel_rfl) rfl (by simp [Value.oneCell']) ?_; intro w4 hbox4 hg4; have HBY := Aside0.mk hbox4; have HB4 := Aside0.mk (pw_below_grown HB3.out _ HB3.out.size hg4 (fun k hk => by injection hk with hk; have := HGB.out; omega)); clear hbox4 hg4) | ((with_reducible refine gate_dst (N := 20) rfl ?_); refine wpList_load_row rfl 27 (.tmp 5) rfl gb rfl 27 #[.int .i64 c.f0, .int .i64 c.f1.f0, .int .i64 c.f1.f1, .string c.f1.f2, .int .i64 c.f2.f0, .int .i64 c.f2.f1, .string c.f2.f2, .bool c.f3, .int .u8 c.f4, .string c.f5, .string c.f6, .string c.f7, .string c.f8, .slice Ap c.f9.length cp, .int .i64 c.f10, .bool c.f11, .bool c.f12, .string c.f13, .string c.f14] (0, 0) _ HBY.out Try.underlying27 rfl (by kernel_rfl) ?_) | (go_at_call 52; refine (book_meet c Ap cp g bm i.toNat ls op w1 _ (IsBook.below HB.out HB4.out) HNM.out HI.out.2.2 (Kd.C_below HC.out HB4.out) HCP.out 0 ls' op' HM.out).mono ?_; rintro e' w5 ⟨rfl, hbel, hkeep, hbook⟩; have HK5 := Aside0.mk (hbook rfl); clear hbel hkeep hbook))
        go_roundg gk
        case rel =>
          refine ⟨i + 1, ls', op', rfl, ⟨by have := HIP.out.1; omega, by have := HI.out.2.1; omega, meet_open HM.out HI.out.2.2⟩, HS2, ?_⟩
          rw [show (i + 1).toNat = i.toNat + 1 from by have := HIP.out.1; omega]
          exact HK5
        case measure => omega
      · rw [if_neg c2] at hS
        obtain rfl := Option.some.inj hS
        have hE := HEnd.out
        unfold checkE at hE
        simp only [if_neg c2, Prod.mk.injEq] at hE
        obtain ⟨rfl, rfl⟩ := hE
        have c2b : (r != 0) = true := bne_iff_ne.mpr c2
        clear hS HEnd c2
        go_wp2_with (first | ((with_reducible refine gate_dst (N := 18) rfl ?_); refine wpList_load_any rfl 27 (.tmp 17) rfl _ rfl [.int .i64 c.f0, .int .i64 c.f1.f0, .int .i64 c.f1.f1, .string c.f1.f2, .int .i64 c.f2.f0, .int .i64 c.f2.f1, .string c.f2.f2, .bool c.f3, .int .u8 c.f4, .string c.f5, .string c.f6, .string c.f7, .string c.f8, .slice Ap c.f9.length cp, .int .i64 c.f10, .bool c.f11, .bool c.f12, .string c.f13, .string c.f14] _ HE.out Try.underlying27 rfl (by kernel_rfl) ?_) | ((with_reducible refine gate_dst (N := 5) rfl ?_); refine box_event ?hg (N := 5) ?hd (cs := #[.int .i64 0, .int .i64 0, .int .i64 0, .string ⟨#[]⟩, .int .i64 0, .int .i64 0, .string ⟨#[]⟩, .bool false, .int .u8 0, .string ⟨#[]⟩, .string ⟨#[]⟩, .string ⟨#[]⟩, .string ⟨#[]⟩, .slice none 0 0, .int .i64 0, .bool false, .bool false, .string ⟨#[]⟩, .string ⟨#[]⟩]) (t := 27) ?hr ?_; (case hd => rfl); (case hg => rfl); (case hr => first | (go_simp; done) | (go_simp; rfl)); intro gb hgb w3 hbox hb3; have HBX := Aside0.mk hbox; have HB3 := Aside0.mk hb3; have HGB := Aside0.mk hgb; clear hbox hb3 hgb) | (refine store_whole rfl rfl 27 (.tmp 5) (.tmp 18) rfl gb #[.int .i64 c.f0, .int .i64 c.f1.f0, .int .i64 c.f1.f1, .string c.f1.f2, .int .i64 c.f2.f0, .int .i64 c.f2.f1, .string c.f2.f2, .bool c.f3, .int .u8 c.f4, .string c.f5, .string c.f6, .string c.f7, .string c.f8, .slice Ap c.f9.length cp, .int .i64 c.f10, .bool c.f11, .bool c.f12, .string c.f13, .string c.f14] rfl rfl 27 _ HBX.out (by kernel_rfl) rfl (by simp [Value.oneCell']) ?_; intro w4 hbox4 hg4; have HBY := Aside0.mk hbox4; have HB4 := Aside0.mk (pw_below_grown HB3.out _ HB3.out.size hg4 (fun k hk => by injection hk with hk; have := HGB.out; omega)); clear hbox4 hg4) | ((with_reducible refine gate_dst (N := 20) rfl ?_); refine wpList_load_row rfl 27 (.tmp 5) rfl gb rfl 27 #[.int .i64 c.f0, .int .i64 c.f1.f0, .int .i64 c.f1.f1, .string c.f1.f2, .int .i64 c.f2.f0, .int .i64 c.f2.f1, .string c.f2.f2, .bool c.f3, .int .u8 c.f4, .string c.f5, .string c.f6, .string c.f7, .string c.f8, .slice Ap c.f9.length cp, .int .i64 c.f10, .bool c.f11, .bool c.f12, .string c.f13, .string c.f14] (0, 0) _ HBY.out Try.underlying27 rfl (by kernel_rfl) ?_) | (go_at_call 52; refine (book_meet c Ap cp g bm i.toNat ls op w1 _ (IsBook.below HB.out HB4.out) HNM.out HI.out.2.2 (Kd.C_below HC.out HB4.out) HCP.out r ls' op' HM.out).mono ?_; rintro e' w5 ⟨rfl, hbel, hkeep, hbook⟩; have HBZ := Aside0.mk (hkeep gb 27 _ (by decide) (by decide) HBY.out); have HQ := Aside0.mk (blk_below HW1.out.1 hbel); have HBL := Aside0.mk (below_step HW1.out.2.1 hbel); have hk0 : w5.cell? ⟨gb, 0, none⟩ = some (.int .i64 c.f0) := (blk_cell HBZ.out 0).trans rfl; have hq0 : w5.cell? ⟨w.heap.size, 0, none⟩ = some (.int .i64 0) := (blk_cell HQ.out 0).trans rfl; have hq1 : w5.cell? ⟨w.heap.size, 1, none⟩ = some (.int .i64 0) := (blk_cell HQ.out 1).trans rfl; have hf0 : w5.frozen? ⟨w.heap.size, 0, none⟩ = false := blk_frozen HQ.out 0; have hf1 : w5.frozen? ⟨w.heap.size, 1, none⟩ = false := blk_frozen HQ.out 1; clear hbel hkeep hbook))
        have hb2 := blk_set (blk_set HQ.out 0 (.int .i64 r)) 1 (.int .i64 c.f0)
        refine bodyPost_ret (results_cell_row rfl _ _ w.heap.size 30 #[.int .i64 r, .int .i64 c.f0] (0, 0) _ rfl hb2 Try.underlying30 rfl (by kernel_rfl)) rfl ?_
        exact ⟨rfl, below_set (below_set (HBL.out) (Nat.le_refl _)) (Nat.le_refl _)⟩
end Go.Proofs.Ytdlbmajilmmapaa.F
