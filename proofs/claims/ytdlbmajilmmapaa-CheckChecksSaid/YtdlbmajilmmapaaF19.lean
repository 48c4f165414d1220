/- The reference's DocCheck, at every list of commands, as docS, docE tell. -/
import Derived.Test.YtdlbmajilmmapaaF53
import Derived.Test.YtdlbmajilmmapaaF54
import Derived.Test.YtdlbmajilmmapaaF55
import Derived.Test.YtdlbmajilmmapaaF56
import Derived.Test.YtdlbmajilmmapaaF18
namespace Go.Proofs.Ytdlbmajilmmapaa.F
open Go.RowKit Go.Maps Go.Proofs.YtdlbmajilmmapaaW.PrintWords Go.Proofs.YtdlbmajilmmapaaW.PrintLast Go.Proofs.YtdlbmajilmmapaaW.PrintMore
set_option linter.unusedVariables false
set_option linter.unusedSimpArgs false

def adRF (c : S27) : Option Int := runnelref19_addresses.f 30 c.f0 c.f1.f0 c.f1.f1 c.f1.f2 c.f2.f0 c.f2.f1 c.f2.f2 c.f3 c.f4 c.f5 c.f6 c.f7 c.f8 c.f9 c.f10 c.f11 c.f12 c.f13 c.f14
def docS (l0 : List S27) : List S27 → Int → Int → Option (Int × Int × Int)
  | [], i, d => some (0, 0, d)
  | c :: l, i, d => (adRF c).bind fun e =>
    if e = 0 then
      if c.f4 = 123 then (if 16 < d + 1 then some (13, c.f0, d + 1) else docS l0 l (i + 1) (d + 1))
      else if c.f4 = 125 then (if d - 1 < 0 then some (23, c.f0, d - 1) else docS l0 l (i + 1) (d - 1))
      else if c.f4 = 58 then
        (if c.f5.size = 0 then some (22, c.f0, d) else if 32 < c.f5.size then some (22, c.f0, d)
        else (runnelref19_Label.f (l0.length + 5) l0 i c.f5).bind fun x => if 0 ≤ x then some (22, c.f0, d) else docS l0 l (i + 1) d)
      else docS l0 l (i + 1) d
    else some (e, c.f0, d)
def docJ (l0 : List S27) : List S27 → Option (Int × Int)
  | [] => some (0, 0)
  | c :: l => (runnelref19_in.f 30 c.f4 (⟨#[98, 116]⟩ : ByteArray)).bind fun b =>
    if b = true then
      (if c.f5.size = 0 then docJ l0 l
      else (runnelref19_Label.f (l0.length + 5) l0 (l0.length : Int) c.f5).bind fun x => if x < 0 then some (22, c.f0) else docJ l0 l)
    else docJ l0 l
def docE (l0 : List S27) (r : Int × Int × Int) : Option (Int × Int) :=
  if r.1 = 0 then
    (if 0 < r.2.2 then
      (runnelref19_Open.f (l0.length + 5) l0 (l0.length : Int)).bind fun o =>
        if o.length = 0 then none else if 0 ≤ rd o ((o.length : Int) - 1) ∧ rd o ((o.length : Int) - 1) < (l0.length : Int) ∧ o.length ≤ 9007199254740992 then some (23, (rd_T27 l0 (rd o ((o.length : Int) - 1))).f0) else none
    else docJ l0 l0)
  else some (r.1, r.2.1)
def runnelref19_DocCheck.f (l0 : List S27) : Option (Int × Int) := (docS l0 l0 0 0).bind (docE l0)

set_option maxHeartbeats 8000000 in
set_option maxRecDepth 100000 in
theorem runnelref19_DocCheck.calls (A0 : Option Addr) (c0 : Nat) (l0 : List S27) (r1 : Int) (r2 : Int) (w : World) (hr0 : Kd.C k27 w A0 l0.length l0) (hc0 : l0.length ≤ c0) (h : runnelref19_DocCheck.f l0 = some (r1, r2)) :
    Calls Try.prog 19 #[.slice A0 l0.length c0] w fun e w' => e = .returned (.tuple #[.int .i64 r1, .int .i64 r2]) ∧ Below w.heap.size w w' := by
  have HR0 := Aside0.mk hr0
  have HC0 := Aside0.mk hc0
  have hm0 : l0.length ≤ 9223372036854775807 := Kd.C_max hr0
  unfold runnelref19_DocCheck.f at h
  obtain ⟨R, hS, hE⟩ := Option.bind_eq_some_iff.1 h
  have H := Aside0.mk hS
  have HEnd := Aside0.mk hE
  have HN := Aside0.mk (show ∀ W : World, Below w.heap.size w W → Kd.C k27 W A0 l0.length l0 from fun W hW => Kd.C_below hr0 hW)
  clear h hr0 hc0 hS hE
  go_enter Try.func19, Try.ntmps19
  go_wp2
  go_loopg [4, 5] l0.length (fun gk v4 v5 wr => ∃ (i d : Int), v4 = .int .i64 d ∧ v5 = .int .i64 i ∧ Aside0 (0 ≤ i ∧ i + gk = l0.length ∧ 0 ≤ d ∧ d ≤ 16) ∧ Aside0 (docS l0 (l0.drop i.toNat) i d = some R) ∧ Aside0 (Below w.heap.size w wr))
  case atStart => exact ⟨0, 0, rfl, rfl, ⟨by omega, by omega, by omega, by omega⟩, H, ⟨Below.refl _ _⟩⟩
  case round =>
    clear H
    obtain ⟨i, d, rfl, rfl, HI, HS, HWB⟩ := hrel
    cases gk with
    | zero =>
      have c1 : decide (i < (l0.length : Int)) = false := decide_eq_false (by have := HI.out.2.1; omega)
      have hS := HS.out
      rw [List.drop_eq_nil_of_le (by have := HI.out.2.1; omega), docS] at hS
      obtain rfl := Option.some.inj hS
      have hE := HEnd.out
      unfold docE at hE
      dsimp only at hE
      rw [if_pos rfl] at hE
      clear HS HEnd hS
      by_cases c2 : 0 < d
      · rw [if_pos c2] at hE
        have c2b : decide (0 < d) = true := decide_eq_true c2
        obtain ⟨o, ho, hE⟩ := Option.bind_eq_some_iff.1 hE
        have HO := Aside0.mk ho
        by_cases c3 : o.length = 0
        · rw [if_pos c3] at hE; cases hE
        rw [if_neg c3] at hE
        obtain ⟨m, hm⟩ : ∃ m : Int, (o.length : Int) - 1 = m := ⟨_, rfl⟩
        rw [hm] at hE
        by_cases c4 : 0 ≤ rd o m ∧ rd o m < (l0.length : Int) ∧ o.length ≤ 9007199254740992
        rotate_left
        · rw [if_neg c4] at hE; cases hE
        rw [if_pos c4] at hE
        obtain ⟨hE1, hE2⟩ := Prod.mk.inj (Option.some.inj hE)
        obtain ⟨x, hx⟩ : ∃ x, rd o m = x := ⟨_, rfl⟩
        rw [hx] at hE2 c4
        clear hE
        subst hE1
        subst hE2
        have HMW := Aside0.mk (show IntKind.i64.wrap ((o.length : Int) - 1) = m from by rw [i64_w, wrap_id (by omega) (by omega)]; exact hm)
        have p1 : (0 ≤ m) = True := eq_true (by omega)
        have q1 : (m < (o.length : Int)) = True := eq_true (by omega)
        have p2 : (0 ≤ x) = True := eq_true c4.1
        have q2 : (x < (l0.length : Int)) = True := eq_true c4.2.1
        have HM := Aside0.mk (And.intro (show 0 ≤ m by omega) (And.intro (show m < (o.length : Int) by omega) (show 0 < o.length by omega)))
        have HXX := Aside0.mk (And.intro c4.1 c4.2.1)
        have HRX := Aside0.mk hx
        clear ho c2 c3 c4 hm hx
        have hmw := HMW.out
        go_wp2_with (first | (go_at_call 55; refine (runnelref19_Open.calls (l0.length + 5) A0 c0 l0 (l0.length : Int) o _ (HN.out _ HWB.out) HC0.out HO.out).mono ?_; rintro e' w3 ⟨v, rfl, hRo, hb3⟩; have HR3 := Aside0.mk hRo; have HB3 := Aside0.mk (below_step HWB.out hb3); clear hRo hb3))
        obtain ⟨go, co, rfl, gb, gl, cl, HG2⟩ := Kd.R_form HR3.out HM.out.2.2
        obtain ⟨ad, A13, c13, hA, hx0, _⟩ := at_T27 (HN.out _ HB3.out) x HXX.out.1 HXX.out.2
        subst hA
        have hcm := (Kd.R_celln (enc := Value.int .i64) 0 HR3.out m HM.out.1 HM.out.2.1).1
        rw [show rdOf 0 o m = x from HRX.out] at hcm
        clear gb gl cl HG2
        (try simp only [Act.put, List.setIfInBounds_toArray, List.set_cons_succ, List.set_cons_zero])
        go_wp2
        (try simp only [Act.put, List.setIfInBounds_toArray, List.set_cons_succ, List.set_cons_zero])
        go_big_quiet (fail)
        go_wp2
        go_ret2
        exact ⟨rfl, pw_below_drewN HB3.out _⟩
      · rw [if_neg c2] at hE
        have c2b : decide (0 < d) = false := decide_eq_false c2
        have HJ0 := Aside0.mk hE
        clear hE c2
        go_wp2
        go_loopg [9] l0.length (fun gk v9 wj => ∃ (j : Int), v9 = .int .i64 j ∧ Aside0 (0 ≤ j ∧ j + gk = l0.length) ∧ Aside0 (docJ l0 (l0.drop j.toNat) = some (r1, r2)) ∧ Aside0 (Below w.heap.size w wj))
        case atStart => exact ⟨0, rfl, ⟨by omega, by omega⟩, HJ0, HWB⟩
        case round =>
          clear HJ0
          obtain ⟨j, rfl, HJ, HSJ, HWJ⟩ := hrel
          cases gk with
          | zero =>
            have c3 : decide (j < (l0.length : Int)) = false := decide_eq_false (by have := HJ.out.2; omega)
            have hS := HSJ.out
            rw [List.drop_eq_nil_of_le (by have := HJ.out.2; omega), docJ] at hS
            obtain ⟨rfl, rfl⟩ := Prod.mk.inj (Option.some.inj hS)
            clear HSJ hS
            go_wp2
            go_ret2
            exact ⟨rfl, HWJ.out⟩
          | succ gk =>
            have h0 := HJ.out.1
            have hlt : j < (l0.length : Int) := by have := HJ.out.2; omega
            have c3 : decide (j < (l0.length : Int)) = true := decide_eq_true hlt
            obtain ⟨ad, Ap, cp, hA, hce⟩ := cmd_elem (HN.out _ HWJ.out) j h0 hlt
            subst hA
            obtain ⟨c, hc⟩ : ∃ c, rd_T27 l0 j = c := ⟨_, rfl⟩
            have hS := HSJ.out
            rw [drop_cmd l0 j h0 hlt, docJ, hc] at hS
            obtain ⟨hcell, hcp, hcC⟩ := hce c hc
            have HE := Aside0.mk hcell
            have HCP := Aside0.mk hcp
            have HC := Aside0.mk hcC
            obtain ⟨b, hb, hS⟩ := Option.bind_eq_some_iff.1 hS
            have HIN := Aside0.mk hb
            have HW1 := Aside0.mk (show IntKind.i64.wrap (j + 1) = j + 1 from by rw [i64_w]; exact wrap_id (by omega) (by omega))
            have p1 : (0 ≤ j) = True := eq_true h0
            have q1 : (j < (l0.length : Int)) = True := eq_true hlt
            have HIP := Aside0.mk h0
            clear hce hcell hcp hcC hb hc h0 hlt HSJ
            have hjn := HW1.out
            cases b with
            | false =>
              rw [if_neg (by decide)] at hS
              have HS2 := Aside0.mk hS
              clear hS
              go_wp2_with (first | ((with_reducible refine gate_dst (N := 101) rfl ?_); refine wpList_load_any rfl 27 (.tmp 100) rfl _ rfl [.int .i64 c.f0, .int .i64 c.f1.f0, .int .i64 c.f1.f1, .string c.f1.f2, .int .i64 c.f2.f0, .int .i64 c.f2.f1, .string c.f2.f2, .bool c.f3, .int .u8 c.f4, .string c.f5, .string c.f6, .string c.f7, .string c.f8, .slice Ap c.f9.length cp, .int .i64 c.f10, .bool c.f11, .bool c.f12, .string c.f13, .string c.f14] _ HE.out Try.underlying27 rfl (by kernel_rfl) ?_) | ((with_reducible refine gate_dst (N := 10) rfl ?_); refine box_event ?hg (N := 10) ?hd (cs := #[.int .i64 0, .int .i64 0, .int .i64 0, .string ⟨#[]⟩, .int .i64 0, .int .i64 0, .string ⟨#[]⟩, .bool false, .int .u8 0, .string ⟨#[]⟩, .string ⟨#[]⟩, .string ⟨#[]⟩, .string ⟨#[]⟩, .slice none 0 0, .int .i64 0, .bool false, .bool false, .string ⟨#[]⟩, .string ⟨#[]⟩]) (t := 27) ?hr ?_; (case hd => rfl); (case hg => rfl); (case hr => first | (go_simp; done) | (go_simp; rfl)); intro gb hgb w3 hbox hb3; have HBX := Aside0.mk hbox; have HB3 := Aside0.mk hb3; have HGB := Aside0.mk hgb; clear hbox hb3 hgb) | ((with_reducible refine gate_store (t := 27) (p := 10) (v := .tmp 101) rfl ?_); refine store_whole rfl rfl 27 (.tmp 10) (.tmp 101) rfl gb #[.int .i64 c.f0, .int .i64 c.f1.f0, .int .i64 c.f1.f1, .string c.f1.f2, .int .i64 c.f2.f0, .int .i64 c.f2.f1, .string c.f2.f2, .bool c.f3, .int .u8 c.f4, .string c.f5, .string c.f6, .string c.f7, .string c.f8, .slice Ap c.f9.length cp, .int .i64 c.f10, .bool c.f11, .bool c.f12, .string c.f13, .string c.f14] rfl rfl 27 _ HBX.out (by kernel_rfl) rfl (by simp [Value.oneCell']) ?_; intro w4 hbox4 hg4; have HBY := Aside0.mk hbox4; have HB4 := Aside0.mk (pw_below_grown HB3.out _ HB3.out.size hg4 (fun k hk => by injection hk with hk; have := HGB.out; omega)); clear hbox4 hg4; have hk0 : w4.cell? ⟨gb, 0, none⟩ = some (.int .i64 c.f0) := (blk_cell HBY.out 0).trans rfl; have hk8 : w4.cell? ⟨gb, 8, none⟩ = some (.int .u8 c.f4) := (blk_cell HBY.out 8).trans rfl; have hk9 : w4.cell? ⟨gb, 9, none⟩ = some (.string c.f5) := (blk_cell HBY.out 9).trans rfl) | (go_at_call 56; refine (runnelref19_in.calls 30 c.f4 (⟨#[98, 116]⟩ : ByteArray) false _ HIN.out).mono ?_; rintro e' w5 ⟨rfl, hb5⟩; have HB5 := Aside0.mk (below_step HB4.out hb5.below); obtain ⟨q5, rfl⟩ := hb5.out) | (go_at_call 54; refine (runnelref19_Label.calls (l0.length + 5) (some ad) c0 l0 (l0.length : Int) c.f5 x _ (HN.out _ (below_step HWJ.out HB5.out)) HC0.out HX.out).mono ?_; rintro e' w6 ⟨rfl, hb6⟩; have HB6 := Aside0.mk (below_step HB5.out hb6.below); obtain ⟨q6, rfl⟩ := hb6.out; (try rw [World.drewN_drewN] at HB6)))
              go_roundg gk
              case rel => exact ⟨j + 1, rfl, ⟨by have := HIP.out; clear hjn; omega, by have := HJ.out.2; clear hjn; omega⟩, HS2, ⟨below_step HWJ.out HB5.out⟩⟩
              case measure => (clear hjn; omega)

            | true =>
              rw [if_pos rfl] at hS
              have htl : c.f5.toList = c.f5.data.toList := Lib.toList_data c.f5
              have hse : c.f5.size = c.f5.data.toList.length := size_list c.f5
              by_cases d3 : c.f5.size = 0
              · rw [if_pos d3] at hS
                have HS2 := Aside0.mk hS
                have d3b : (c.f5.toList != ([] : List UInt8)) = false := by rw [htl, List.length_eq_zero_iff.1 (show c.f5.data.toList.length = 0 by rw [← hse]; exact d3)]; rfl
                have d3c : (c.f5.toList == ([] : List UInt8)) = true := by rw [htl, List.length_eq_zero_iff.1 (show c.f5.data.toList.length = 0 by rw [← hse]; exact d3)]; rfl
                clear htl hse d3 hS
                go_wp2_with (first | ((with_reducible refine gate_dst (N := 101) rfl ?_); refine wpList_load_any rfl 27 (.tmp 100) rfl _ rfl [.int .i64 c.f0, .int .i64 c.f1.f0, .int .i64 c.f1.f1, .string c.f1.f2, .int .i64 c.f2.f0, .int .i64 c.f2.f1, .string c.f2.f2, .bool c.f3, .int .u8 c.f4, .string c.f5, .string c.f6, .string c.f7, .string c.f8, .slice Ap c.f9.length cp, .int .i64 c.f10, .bool c.f11, .bool c.f12, .string c.f13, .string c.f14] _ HE.out Try.underlying27 rfl (by kernel_rfl) ?_) | ((with_reducible refine gate_dst (N := 10) rfl ?_); refine box_event ?hg (N := 10) ?hd (cs := #[.int .i64 0, .int .i64 0, .int .i64 0, .string ⟨#[]⟩, .int .i64 0, .int .i64 0, .string ⟨#[]⟩, .bool false, .int .u8 0, .string ⟨#[]⟩, .string ⟨#[]⟩, .string ⟨#[]⟩, .string ⟨#[]⟩, .slice none 0 0, .int .i64 0, .bool false, .bool false, .string ⟨#[]⟩, .string ⟨#[]⟩]) (t := 27) ?hr ?_; (case hd => rfl); (case hg => rfl); (case hr => first | (go_simp; done) | (go_simp; rfl)); intro gb hgb w3 hbox hb3; have HBX := Aside0.mk hbox; have HB3 := Aside0.mk hb3; have HGB := Aside0.mk hgb; clear hbox hb3 hgb) | ((with_reducible refine gate_store (t := 27) (p := 10) (v := .tmp 101) rfl ?_); refine store_whole rfl rfl 27 (.tmp 10) (.tmp 101) rfl gb #[.int .i64 c.f0, .int .i64 c.f1.f0, .int .i64 c.f1.f1, .string c.f1.f2, .int .i64 c.f2.f0, .int .i64 c.f2.f1, .string c.f2.f2, .bool c.f3, .int .u8 c.f4, .string c.f5, .string c.f6, .string c.f7, .string c.f8, .slice Ap c.f9.length cp, .int .i64 c.f10, .bool c.f11, .bool c.f12, .string c.f13, .string c.f14] rfl rfl 27 _ HBX.out (by kernel_rfl) rfl (by simp [Value.oneCell']) ?_; intro w4 hbox4 hg4; have HBY := Aside0.mk hbox4; have HB4 := Aside0.mk (pw_below_grown HB3.out _ HB3.out.size hg4 (fun k hk => by injection hk with hk; have := HGB.out; omega)); clear hbox4 hg4; have hk0 : w4.cell? ⟨gb, 0, none⟩ = some (.int .i64 c.f0) := (blk_cell HBY.out 0).trans rfl; have hk8 : w4.cell? ⟨gb, 8, none⟩ = some (.int .u8 c.f4) := (blk_cell HBY.out 8).trans rfl; have hk9 : w4.cell? ⟨gb, 9, none⟩ = some (.string c.f5) := (blk_cell HBY.out 9).trans rfl) | (go_at_call 56; refine (runnelref19_in.calls 30 c.f4 (⟨#[98, 116]⟩ : ByteArray) true _ HIN.out).mono ?_; rintro e' w5 ⟨rfl, hb5⟩; have HB5 := Aside0.mk (below_step HB4.out hb5.below); obtain ⟨q5, rfl⟩ := hb5.out) | (go_at_call 54; refine (runnelref19_Label.calls (l0.length + 5) (some ad) c0 l0 (l0.length : Int) c.f5 x _ (HN.out _ (below_step HWJ.out HB5.out)) HC0.out HX.out).mono ?_; rintro e' w6 ⟨rfl, hb6⟩; have HB6 := Aside0.mk (below_step HB5.out hb6.below); obtain ⟨q6, rfl⟩ := hb6.out; (try rw [World.drewN_drewN] at HB6)))
                go_roundg gk
                case rel => exact ⟨j + 1, rfl, ⟨by have := HIP.out; clear hjn; omega, by have := HJ.out.2; clear hjn; omega⟩, HS2, ⟨below_step HWJ.out HB5.out⟩⟩
                case measure => (clear hjn; omega)

              rw [if_neg d3] at hS
              have d3b : (c.f5.toList != ([] : List UInt8)) = true := by
                rw [htl]
                refine bne_iff_ne.2 fun e => d3 ?_
                rw [hse, e]
                rfl
              have d3c : (c.f5.toList == ([] : List UInt8)) = false := beq_eq_false_iff_ne.2 (bne_iff_ne.1 d3b)
              clear htl hse d3
              obtain ⟨x, hx, hS⟩ := Option.bind_eq_some_iff.1 hS
              have HX := Aside0.mk hx
              clear hx
              by_cases d5 : x < 0
              · rw [if_pos d5] at hS
                have d5b : decide (x < 0) = true := decide_eq_true d5
                obtain ⟨rfl, rfl⟩ := Prod.mk.inj (Option.some.inj hS)
                clear d5 hS
                go_wp2_with (first | ((with_reducible refine gate_dst (N := 101) rfl ?_); refine wpList_load_any rfl 27 (.tmp 100) rfl _ rfl [.int .i64 c.f0, .int .i64 c.f1.f0, .int .i64 c.f1.f1, .string c.f1.f2, .int .i64 c.f2.f0, .int .i64 c.f2.f1, .string c.f2.f2, .bool c.f3, .int .u8 c.f4, .string c.f5, .string c.f6, .string c.f7, .string c.f8, .slice Ap c.f9.length cp, .int .i64 c.f10, .bool c.f11, .bool c.f12, .string c.f13, .string c.f14] _ HE.out Try.underlying27 rfl (by kernel_rfl) ?_) | ((with_reducible refine gate_dst (N := 10) rfl ?_); refine box_event ?hg (N := 10) ?hd (cs := #[.int .i64 0, .int .i64 0, .int .i64 0, .string ⟨#[]⟩, .int .i64 0, .int .i64 0, .string ⟨#[]⟩, .bool false, .int .u8 0, .string ⟨#[]⟩, .string ⟨#[]⟩, .string ⟨#[]⟩, .string ⟨#[]⟩, .slice none 0 0, .int .i64 0, .bool false, .bool false, .string ⟨#[]⟩, .string ⟨#[]⟩]) (t := 27) ?hr ?_; (case hd => rfl); (case hg => rfl); (case hr => first | (go_simp; done) | (go_simp; rfl)); intro gb hgb w3 hbox hb3; have HBX := Aside0.mk hbox; have HB3 := Aside0.mk hb3; have HGB := Aside0.mk hgb; clear hbox hb3 hgb) | ((with_reducible refine gate_store (t := 27) (p := 10) (v := .tmp 101) rfl ?_); refine store_whole rfl rfl 27 (.tmp 10) (.tmp 101) rfl gb #[.int .i64 c.f0, .int .i64 c.f1.f0, .int .i64 c.f1.f1, .string c.f1.f2, .int .i64 c.f2.f0, .int .i64 c.f2.f1, .string c.f2.f2, .bool c.f3, .int .u8 c.f4, .string c.f5, .string c.f6, .string c.f7, .string c.f8, .slice Ap c.f9.length cp, .int .i64 c.f10, .bool c.f11, .bool c.f12, .string c.f13, .string c.f14] rfl rfl 27 _ HBX.out (by kernel_rfl) rfl (by simp [Value.oneCell']) ?_; intro w4 hbox4 hg4; have HBY := Aside0.mk hbox4; have HB4 := Aside0.mk (pw_below_grown HB3.out _ HB3.out.size hg4 (fun k hk => by injection hk with hk; have := HGB.out; omega)); clear hbox4 hg4; have hk0 : w4.cell? ⟨gb, 0, none⟩ = some (.int .i64 c.f0) := (blk_cell HBY.out 0).trans rfl; have hk8 : w4.cell? ⟨gb, 8, none⟩ = some (.int .u8 c.f4) := (blk_cell HBY.out 8).trans rfl; have hk9 : w4.cell? ⟨gb, 9, none⟩ = some (.string c.f5) := (blk_cell HBY.out 9).trans rfl) | (go_at_call 56; refine (runnelref19_in.calls 30 c.f4 (⟨#[98, 116]⟩ : ByteArray) true _ HIN.out).mono ?_; rintro e' w5 ⟨rfl, hb5⟩; have HB5 := Aside0.mk (below_step HB4.out hb5.below); obtain ⟨q5, rfl⟩ := hb5.out) | (go_at_call 54; refine (runnelref19_Label.calls (l0.length + 5) (some ad) c0 l0 (l0.length : Int) c.f5 x _ (HN.out _ (below_step HWJ.out HB5.out)) HC0.out HX.out).mono ?_; rintro e' w6 ⟨rfl, hb6⟩; have HB6 := Aside0.mk (below_step HB5.out hb6.below); obtain ⟨q6, rfl⟩ := hb6.out; (try rw [World.drewN_drewN] at HB6)))
                (try simp only [Act.put, List.setIfInBounds_toArray, List.set_cons_succ, List.set_cons_zero])
                go_big_quiet (fail)
                go_wp2
                go_ret2
                exact ⟨rfl, pw_below_drewN (below_step HWJ.out HB6.out) _⟩

              · rw [if_neg d5] at hS
                have d5b : decide (x < 0) = false := decide_eq_false d5
                have HS2 := Aside0.mk hS
                clear hS d5
                go_wp2_with (first | ((with_reducible refine gate_dst (N := 101) rfl ?_); refine wpList_load_any rfl 27 (.tmp 100) rfl _ rfl [.int .i64 c.f0, .int .i64 c.f1.f0, .int .i64 c.f1.f1, .string c.f1.f2, .int .i64 c.f2.f0, .int .i64 c.f2.f1, .string c.f2.f2, .bool c.f3, .int .u8 c.f4, .string c.f5, .string c.f6, .string c.f7, .string c.f8, .slice Ap c.f9.length cp, .int .i64 c.f10, .bool c.f11, .bool c.f12, .string c.f13, .string c.f14] _ HE.out Try.underlying27 rfl (by kernel_rfl) ?_) | ((with_reducible refine gate_dst (N := 10) rfl ?_); refine box_event ?hg (N := 10) ?hd (cs := #[.int .i64 0, .int .i64 0, .int .i64 0, .string ⟨#[]⟩, .int .i64 0, .int .i64 0, .string ⟨#[]⟩, .bool false, .int .u8 0, .string ⟨#[]⟩, .string ⟨#[]⟩, .string ⟨#[]⟩, .string ⟨#[]⟩, .slice none 0 0, .int .i64 0, .bool false, .bool false, .string ⟨#[]⟩, .string ⟨#[]⟩]) (t := 27) ?hr ?_; (case hd => rfl); (case hg => rfl); (case hr => first | (go_simp; done) | (go_simp; rfl)); intro gb hgb w3 hbox hb3; have HBX := Aside0.mk hbox; have HB3 := Aside0.mk hb3; have HGB := Aside0.mk hgb; clear hbox hb3 hgb) | ((with_reducible refine gate_store (t := 27) (p := 10) (v := .tmp 101) rfl ?_); refine store_whole rfl rfl 27 (.tmp 10) (.tmp 101) rfl gb #[.int .i64 c.f0, .int .i64 c.f1.f0, .int .i64 c.f1.f1, .string c.f1.f2, .int .i64 c.f2.f0, .int .i64 c.f2.f1, .string c.f2.f2, .bool c.f3, .int .u8 c.f4, .string c.f5, .string c.f6, .string c.f7, .string c.f8, .slice Ap c.f9.length cp, .int .i64 c.f10, .bool c.f11, .bool c.f12, .string c.f13, .string c.f14] rfl rfl 27 _ HBX.out (by kernel_rfl) rfl (by simp [Value.oneCell']) ?_; intro w4 hbox4 hg4; have HBY := Aside0.mk hbox4; have HB4 := Aside0.mk (pw_below_grown HB3.out _ HB3.out.size hg4 (fun k hk => by injection hk with hk; have := HGB.out; omega)); clear hbox4 hg4; have hk0 : w4.cell? ⟨gb, 0, none⟩ = some (.int .i64 c.f0) := (blk_cell HBY.out 0).trans rfl; have hk8 : w4.cell? ⟨gb, 8, none⟩ = some (.int .u8 c.f4) := (blk_cell HBY.out 8).trans rfl; have hk9 : w4.cell? ⟨gb, 9, none⟩ = some (.string c.f5) := (blk_cell HBY.out 9).trans rfl) | (go_at_call 56; refine (runnelref19_in.calls 30 c.f4 (⟨#[98, 116]⟩ : ByteArray) true _ HIN.out).mono ?_; rintro e' w5 ⟨rfl, hb5⟩; have HB5 := Aside0.mk (below_step HB4.out hb5.below); obtain ⟨q5, rfl⟩ := hb5.out) | (go_at_call 54; refine (runnelref19_Label.calls (l0.length + 5) (some ad) c0 l0 (l0.length : Int) c.f5 x _ (HN.out _ (below_step HWJ.out HB5.out)) HC0.out HX.out).mono ?_; rintro e' w6 ⟨rfl, hb6⟩; have HB6 := Aside0.mk (below_step HB5.out hb6.below); obtain ⟨q6, rfl⟩ := hb6.out; (try rw [World.drewN_drewN] at HB6)))
                go_roundg gk
                case rel => exact ⟨j + 1, rfl, ⟨by have := HIP.out; clear hjn; omega, by have := HJ.out.2; clear hjn; omega⟩, HS2, ⟨below_step HWJ.out HB6.out⟩⟩
                case measure => (clear hjn; omega)

    | succ gk =>
      have h0 := HI.out.1
      have hd0 := HI.out.2.2.1
      have hd1 := HI.out.2.2.2
      have hlt : i < (l0.length : Int) := by have := HI.out.2.1; omega
      have c1 : decide (i < (l0.length : Int)) = true := decide_eq_true hlt
      obtain ⟨ad, Ap, cp, hA, hce⟩ := cmd_elem (HN.out _ HWB.out) i h0 hlt
      subst hA
      have hS := HS.out
      rw [drop_cmd l0 i h0 hlt, docS] at hS
      obtain ⟨c, hc⟩ : ∃ c, rd_T27 l0 i = c := ⟨_, rfl⟩
      rw [hc] at hS
      obtain ⟨hcell, hcp, hcC⟩ := hce c hc
      have HE := Aside0.mk hcell
      have HCP := Aside0.mk hcp
      have HC := Aside0.mk hcC
      obtain ⟨e, he, hS⟩ := Option.bind_eq_some_iff.1 hS
      have HA := Aside0.mk (show runnelref19_addresses.f 30 c.f0 c.f1.f0 c.f1.f1 c.f1.f2 c.f2.f0 c.f2.f1 c.f2.f2 c.f3 c.f4 c.f5 c.f6 c.f7 c.f8 c.f9 c.f10 c.f11 c.f12 c.f13 c.f14 = some e from he)
      have HW1 := Aside0.mk (show IntKind.i64.wrap (i + 1) = i + 1 from by rw [i64_w]; exact wrap_id (by omega) (by omega))
      have HW2 := Aside0.mk (show IntKind.i64.wrap (d + 1) = d + 1 from by rw [i64_w]; exact wrap_id (by omega) (by omega))
      have HW3 := Aside0.mk (show IntKind.i64.wrap (d - 1) = d - 1 from by rw [i64_w]; exact wrap_id (by omega) (by omega))
      have p1 : (0 ≤ i) = True := eq_true h0
      have q1 : (i < (l0.length : Int)) = True := eq_true hlt
      have HIP := Aside0.mk (And.intro h0 hlt)
      have HD := Aside0.mk (And.intro hd0 hd1)
      clear hce hcell hcp hcC he hc h0 hlt hd0 hd1
      have hin := HW1.out
      have hdp := HW2.out
      have hdm := HW3.out
      by_cases c2 : e = 0
      rotate_left
      · rw [if_neg c2] at hS
        obtain rfl := Option.some.inj hS
        have hE := HEnd.out
        unfold docE at hE
        rw [if_neg c2] at hE
        obtain ⟨rfl, rfl⟩ := Prod.mk.inj (Option.some.inj hE)
        have c2b : (e == 0) = false := beq_eq_false_iff_ne.mpr c2
        have c2c : (e != 0) = true := bne_iff_ne.mpr c2
        clear hS hE HEnd c2 HS
        go_wp2_with (first | ((with_reducible refine gate_dst (N := 20) rfl ?_); refine wpList_load_any rfl 27 (.tmp 19) rfl _ rfl [.int .i64 c.f0, .int .i64 c.f1.f0, .int .i64 c.f1.f1, .string c.f1.f2, .int .i64 c.f2.f0, .int .i64 c.f2.f1, .string c.f2.f2, .bool c.f3, .int .u8 c.f4, .string c.f5, .string c.f6, .string c.f7, .string c.f8, .slice Ap c.f9.length cp, .int .i64 c.f10, .bool c.f11, .bool c.f12, .string c.f13, .string c.f14] _ HE.out Try.underlying27 rfl (by kernel_rfl) ?_) | ((with_reducible refine gate_dst (N := 6) rfl ?_); refine box_event ?hg (N := 6) ?hd (cs := #[.int .i64 0, .int .i64 0, .int .i64 0, .string ⟨#[]⟩, .int .i64 0, .int .i64 0, .string ⟨#[]⟩, .bool false, .int .u8 0, .string ⟨#[]⟩, .string ⟨#[]⟩, .string ⟨#[]⟩, .string ⟨#[]⟩, .slice none 0 0, .int .i64 0, .bool false, .bool false, .string ⟨#[]⟩, .string ⟨#[]⟩]) (t := 27) ?hr ?_; (case hd => rfl); (case hg => rfl); (case hr => first | (go_simp; done) | (go_simp; rfl)); intro gb hgb w3 hbox hb3; have HBX := Aside0.mk hbox; have HB3 := Aside0.mk hb3; have HGB := Aside0.mk hgb; clear hbox hb3 hgb) | ((with_reducible refine gate_store (t := 27) (p := 6) (v := .tmp 20) rfl ?_); refine store_whole rfl rfl 27 (.tmp 6) (.tmp 20) rfl gb #[.int .i64 c.f0, .int .i64 c.f1.f0, .int .i64 c.f1.f1, .string c.f1.f2, .int .i64 c.f2.f0, .int .i64 c.f2.f1, .string c.f2.f2, .bool c.f3, .int .u8 c.f4, .string c.f5, .string c.f6, .string c.f7, .string c.f8, .slice Ap c.f9.length cp, .int .i64 c.f10, .bool c.f11, .bool c.f12, .string c.f13, .string c.f14] rfl rfl 27 _ HBX.out (by kernel_rfl) rfl (by simp [Value.oneCell']) ?_; intro w4 hbox4 hg4; have HBY := Aside0.mk hbox4; have HB4 := Aside0.mk (pw_below_grown HB3.out _ HB3.out.size hg4 (fun k hk => by injection hk with hk; have := HGB.out; omega)); clear hbox4 hg4) | ((with_reducible refine gate_dst (N := 21) rfl ?_); refine wpList_load_row rfl 27 (.tmp 6) rfl gb rfl 27 #[.int .i64 c.f0, .int .i64 c.f1.f0, .int .i64 c.f1.f1, .string c.f1.f2, .int .i64 c.f2.f0, .int .i64 c.f2.f1, .string c.f2.f2, .bool c.f3, .int .u8 c.f4, .string c.f5, .string c.f6, .string c.f7, .string c.f8, .slice Ap c.f9.length cp, .int .i64 c.f10, .bool c.f11, .bool c.f12, .string c.f13, .string c.f14] (0, 0) _ HBY.out Try.underlying27 rfl (by kernel_rfl) ?_) | (go_at_call 53; refine (runnelref19_addresses.calls 30 c.f0 c.f1.f0 c.f1.f1 c.f1.f2 c.f2.f0 c.f2.f1 c.f2.f2 c.f3 c.f4 c.f5 c.f6 c.f7 c.f8 Ap cp c.f9 c.f10 c.f11 c.f12 c.f13 c.f14 e _ (Kd.C_below HC.out HB4.out) HCP.out HA.out).mono ?_; rintro e' w5 ⟨rfl, hb5⟩; have HB5 := Aside0.mk (below_step HB4.out hb5); have HBZ := Aside0.mk (blk_below HBY.out hb5); clear hb5; have hk0 : w5.cell? ⟨gb, 0, none⟩ = some (.int .i64 c.f0) := (blk_cell HBZ.out 0).trans rfl; have hk8 : w5.cell? ⟨gb, 8, none⟩ = some (.int .u8 c.f4) := (blk_cell HBZ.out 8).trans rfl; have hk9 : w5.cell? ⟨gb, 9, none⟩ = some (.string c.f5) := (blk_cell HBZ.out 9).trans rfl) | (go_at_call 54; refine (runnelref19_Label.calls (l0.length + 5) (some ad) c0 l0 i c.f5 x _ (HN.out _ (below_step HWB.out HB5.out)) HC0.out HX.out).mono ?_; rintro e' w6 ⟨rfl, hb6⟩; have HB6 := Aside0.mk (below_step HB5.out hb6.below); obtain ⟨q6, rfl⟩ := hb6.out))
        (try simp only [Act.put, List.setIfInBounds_toArray, List.set_cons_succ, List.set_cons_zero])
        go_big_quiet (fail)
        go_wp2
        go_ret2
        exact ⟨rfl, pw_below_drewN (below_step HWB.out HB5.out) _⟩

      subst c2
      rw [if_pos rfl] at hS
      by_cases c3 : c.f4 = 123
      · rw [if_pos c3] at hS
        have c3b : (c.f4 == 123) = true := beq_iff_eq.mpr c3
        have c3c : (c.f4 == 125) = false := beq_eq_false_iff_ne.mpr (by omega)
        have c3d : (c.f4 == 58) = false := beq_eq_false_iff_ne.mpr (by omega)
        by_cases c4 : 16 < d + 1
        · rw [if_pos c4] at hS
          have c4b : decide (16 < d + 1) = true := decide_eq_true c4
          obtain rfl := Option.some.inj hS
          have hE := HEnd.out
          unfold docE at hE
          dsimp only at hE
          rw [if_neg (by decide)] at hE
          obtain ⟨rfl, rfl⟩ := Prod.mk.inj (Option.some.inj hE)
          clear hS hE HEnd HS
          try clear c4
          try clear c3
          try clear c5
          go_wp2_with (first | ((with_reducible refine gate_dst (N := 20) rfl ?_); refine wpList_load_any rfl 27 (.tmp 19) rfl _ rfl [.int .i64 c.f0, .int .i64 c.f1.f0, .int .i64 c.f1.f1, .string c.f1.f2, .int .i64 c.f2.f0, .int .i64 c.f2.f1, .string c.f2.f2, .bool c.f3, .int .u8 c.f4, .string c.f5, .string c.f6, .string c.f7, .string c.f8, .slice Ap c.f9.length cp, .int .i64 c.f10, .bool c.f11, .bool c.f12, .string c.f13, .string c.f14] _ HE.out Try.underlying27 rfl (by kernel_rfl) ?_) | ((with_reducible refine gate_dst (N := 6) rfl ?_); refine box_event ?hg (N := 6) ?hd (cs := #[.int .i64 0, .int .i64 0, .int .i64 0, .string ⟨#[]⟩, .int .i64 0, .int .i64 0, .string ⟨#[]⟩, .bool false, .int .u8 0, .string ⟨#[]⟩, .string ⟨#[]⟩, .string ⟨#[]⟩, .string ⟨#[]⟩, .slice none 0 0, .int .i64 0, .bool false, .bool false, .string ⟨#[]⟩, .string ⟨#[]⟩]) (t := 27) ?hr ?_; (case hd => rfl); (case hg => rfl); (case hr => first | (go_simp; done) | (go_simp; rfl)); intro gb hgb w3 hbox hb3; have HBX := Aside0.mk hbox; have HB3 := Aside0.mk hb3; have HGB := Aside0.mk hgb; clear hbox hb3 hgb) | ((with_reducible refine gate_store (t := 27) (p := 6) (v := .tmp 20) rfl ?_); refine store_whole rfl rfl 27 (.tmp 6) (.tmp 20) rfl gb #[.int .i64 c.f0, .int .i64 c.f1.f0, .int .i64 c.f1.f1, .string c.f1.f2, .int .i64 c.f2.f0, .int .i64 c.f2.f1, .string c.f2.f2, .bool c.f3, .int .u8 c.f4, .string c.f5, .string c.f6, .string c.f7, .string c.f8, .slice Ap c.f9.length cp, .int .i64 c.f10, .bool c.f11, .bool c.f12, .string c.f13, .string c.f14] rfl rfl 27 _ HBX.out (by kernel_rfl) rfl (by simp [Value.oneCell']) ?_; intro w4 hbox4 hg4; have HBY := Aside0.mk hbox4; have HB4 := Aside0.mk (pw_below_grown HB3.out _ HB3.out.size hg4 (fun k hk => by injection hk with hk; have := HGB.out; omega)); clear hbox4 hg4) | ((with_reducible refine gate_dst (N := 21) rfl ?_); refine wpList_load_row rfl 27 (.tmp 6) rfl gb rfl 27 #[.int .i64 c.f0, .int .i64 c.f1.f0, .int .i64 c.f1.f1, .string c.f1.f2, .int .i64 c.f2.f0, .int .i64 c.f2.f1, .string c.f2.f2, .bool c.f3, .int .u8 c.f4, .string c.f5, .string c.f6, .string c.f7, .string c.f8, .slice Ap c.f9.length cp, .int .i64 c.f10, .bool c.f11, .bool c.f12, .string c.f13, .string c.f14] (0, 0) _ HBY.out Try.underlying27 rfl (by kernel_rfl) ?_) | (go_at_call 53; refine (runnelref19_addresses.calls 30 c.f0 c.f1.f0 c.f1.f1 c.f1.f2 c.f2.f0 c.f2.f1 c.f2.f2 c.f3 c.f4 c.f5 c.f6 c.f7 c.f8 Ap cp c.f9 c.f10 c.f11 c.f12 c.f13 c.f14 0 _ (Kd.C_below HC.out HB4.out) HCP.out HA.out).mono ?_; rintro e' w5 ⟨rfl, hb5⟩; have HB5 := Aside0.mk (below_step HB4.out hb5); have HBZ := Aside0.mk (blk_below HBY.out hb5); clear hb5; have hk0 : w5.cell? ⟨gb, 0, none⟩ = some (.int .i64 c.f0) := (blk_cell HBZ.out 0).trans rfl; have hk8 : w5.cell? ⟨gb, 8, none⟩ = some (.int .u8 c.f4) := (blk_cell HBZ.out 8).trans rfl; have hk9 : w5.cell? ⟨gb, 9, none⟩ = some (.string c.f5) := (blk_cell HBZ.out 9).trans rfl) | (go_at_call 54; refine (runnelref19_Label.calls (l0.length + 5) (some ad) c0 l0 i c.f5 x _ (HN.out _ (below_step HWB.out HB5.out)) HC0.out HX.out).mono ?_; rintro e' w6 ⟨rfl, hb6⟩; have HB6 := Aside0.mk (below_step HB5.out hb6.below); obtain ⟨q6, rfl⟩ := hb6.out))
          (try simp only [Act.put, List.setIfInBounds_toArray, List.set_cons_succ, List.set_cons_zero])
          go_big_quiet (fail)
          go_wp2
          go_ret2
          exact ⟨rfl, pw_below_drewN (below_step HWB.out HB5.out) _⟩

        · rw [if_neg c4] at hS
          have c4b : decide (16 < d + 1) = false := decide_eq_false c4
          have HS2 := Aside0.mk hS
          have HD2 := Aside0.mk (show 0 ≤ d + 1 ∧ d + 1 ≤ 16 by have := HD.out; omega)
          clear hS c3 c4
          go_wp2_with (first | ((with_reducible refine gate_dst (N := 20) rfl ?_); refine wpList_load_any rfl 27 (.tmp 19) rfl _ rfl [.int .i64 c.f0, .int .i64 c.f1.f0, .int .i64 c.f1.f1, .string c.f1.f2, .int .i64 c.f2.f0, .int .i64 c.f2.f1, .string c.f2.f2, .bool c.f3, .int .u8 c.f4, .string c.f5, .string c.f6, .string c.f7, .string c.f8, .slice Ap c.f9.length cp, .int .i64 c.f10, .bool c.f11, .bool c.f12, .string c.f13, .string c.f14] _ HE.out Try.underlying27 rfl (by kernel_rfl) ?_) | ((with_reducible refine gate_dst (N := 6) rfl ?_); refine box_event ?hg (N := 6) ?hd (cs := #[.int .i64 0, .int .i64 0, .int .i64 0, .string ⟨#[]⟩, .int .i64 0, .int .i64 0, .string ⟨#[]⟩, .bool false, .int .u8 0, .string ⟨#[]⟩, .string ⟨#[]⟩, .string ⟨#[]⟩, .string ⟨#[]⟩, .slice none 0 0, .int .i64 0, .bool false, .bool false, .string ⟨#[]⟩, .string ⟨#[]⟩]) (t := 27) ?hr ?_; (case hd => rfl); (case hg => rfl); (case hr => first | (go_simp; done) | (go_simp; rfl)); intro gb hgb w3 hbox hb3; have HBX := Aside0.mk hbox; have HB3 := Aside0.mk hb3; have HGB := Aside0.mk hgb; clear hbox hb3 hgb) | ((with_reducible refine gate_store (t := 27) (p := 6) (v := .tmp 20) rfl ?_); refine store_whole rfl rfl 27 (.tmp 6) (.tmp 20) rfl gb #[.int .i64 c.f0, .int .i64 c.f1.f0, .int .i64 c.f1.f1, .string c.f1.f2, .int .i64 c.f2.f0, .int .i64 c.f2.f1, .string c.f2.f2, .bool c.f3, .int .u8 c.f4, .string c.f5, .string c.f6, .string c.f7, .string c.f8, .slice Ap c.f9.length cp, .int .i64 c.f10, .bool c.f11, .bool c.f12, .string c.f13, .string c.f14] rfl rfl 27 _ HBX.out (by kernel_rfl) rfl (by simp [Value.oneCell']) ?_; intro w4 hbox4 hg4; have HBY := Aside0.mk hbox4; have HB4 := Aside0.mk (pw_below_grown HB3.out _ HB3.out.size hg4 (fun k hk => by injection hk with hk; have := HGB.out; omega)); clear hbox4 hg4) | ((with_reducible refine gate_dst (N := 21) rfl ?_); refine wpList_load_row rfl 27 (.tmp 6) rfl gb rfl 27 #[.int .i64 c.f0, .int .i64 c.f1.f0, .int .i64 c.f1.f1, .string c.f1.f2, .int .i64 c.f2.f0, .int .i64 c.f2.f1, .string c.f2.f2, .bool c.f3, .int .u8 c.f4, .string c.f5, .string c.f6, .string c.f7, .string c.f8, .slice Ap c.f9.length cp, .int .i64 c.f10, .bool c.f11, .bool c.f12, .string c.f13, .string c.f14] (0, 0) _ HBY.out Try.underlying27 rfl (by kernel_rfl) ?_) | (go_at_call 53; refine (runnelref19_addresses.calls 30 c.f0 c.f1.f0 c.f1.f1 c.f1.f2 c.f2.f0 c.f2.f1 c.f2.f2 c.f3 c.f4 c.f5 c.f6 c.f7 c.f8 Ap cp c.f9 c.f10 c.f11 c.f12 c.f13 c.f14 0 _ (Kd.C_below HC.out HB4.out) HCP.out HA.out).mono ?_; rintro e' w5 ⟨rfl, hb5⟩; have HB5 := Aside0.mk (below_step HB4.out hb5); have HBZ := Aside0.mk (blk_below HBY.out hb5); clear hb5; have hk0 : w5.cell? ⟨gb, 0, none⟩ = some (.int .i64 c.f0) := (blk_cell HBZ.out 0).trans rfl; have hk8 : w5.cell? ⟨gb, 8, none⟩ = some (.int .u8 c.f4) := (blk_cell HBZ.out 8).trans rfl; have hk9 : w5.cell? ⟨gb, 9, none⟩ = some (.string c.f5) := (blk_cell HBZ.out 9).trans rfl) | (go_at_call 54; refine (runnelref19_Label.calls (l0.length + 5) (some ad) c0 l0 i c.f5 x _ (HN.out _ (below_step HWB.out HB5.out)) HC0.out HX.out).mono ?_; rintro e' w6 ⟨rfl, hb6⟩; have HB6 := Aside0.mk (below_step HB5.out hb6.below); obtain ⟨q6, rfl⟩ := hb6.out))
          go_roundg gk
          case rel => exact ⟨i + 1, d + 1, rfl, rfl, ⟨by have := HIP.out.1; clear hin hdp hdm; omega, by have := HI.out.2.1; clear hin hdp hdm; omega, HD2.out.1, HD2.out.2⟩, HS2, ⟨below_step HWB.out HB5.out⟩⟩
          case measure => (clear hin hdp hdm; omega)

      rw [if_neg c3] at hS
      have c3b : (c.f4 == 123) = false := beq_eq_false_iff_ne.mpr c3
      clear c3
      by_cases c5 : c.f4 = 125
      · rw [if_pos c5] at hS
        have c5b : (c.f4 == 125) = true := beq_iff_eq.mpr c5
        have c5d : (c.f4 == 58) = false := beq_eq_false_iff_ne.mpr (by omega)
        by_cases c4 : d - 1 < 0
        · rw [if_pos c4] at hS
          have c4b : decide (d - 1 < 0) = true := decide_eq_true c4
          obtain rfl := Option.some.inj hS
          have hE := HEnd.out
          unfold docE at hE
          dsimp only at hE
          rw [if_neg (by decide)] at hE
          obtain ⟨rfl, rfl⟩ := Prod.mk.inj (Option.some.inj hE)
          clear hS hE HEnd HS
          try clear c4
          try clear c3
          try clear c5
          go_wp2_with (first | ((with_reducible refine gate_dst (N := 20) rfl ?_); refine wpList_load_any rfl 27 (.tmp 19) rfl _ rfl [.int .i64 c.f0, .int .i64 c.f1.f0, .int .i64 c.f1.f1, .string c.f1.f2, .int .i64 c.f2.f0, .int .i64 c.f2.f1, .string c.f2.f2, .bool c.f3, .int .u8 c.f4, .string c.f5, .string c.f6, .string c.f7, .string c.f8, .slice Ap c.f9.length cp, .int .i64 c.f10, .bool c.f11, .bool c.f12, .string c.f13, .string c.f14] _ HE.out Try.underlying27 rfl (by kernel_rfl) ?_) | ((with_reducible refine gate_dst (N := 6) rfl ?_); refine box_event ?hg (N := 6) ?hd (cs := #[.int .i64 0, .int .i64 0, .int .i64 0, .string ⟨#[]⟩, .int .i64 0, .int .i64 0, .string ⟨#[]⟩, .bool false, .int .u8 0, .string ⟨#[]⟩, .string ⟨#[]⟩, .string ⟨#[]⟩, .string ⟨#[]⟩, .slice none 0 0, .int .i64 0, .bool false, .bool false, .string ⟨#[]⟩, .string ⟨#[]⟩]) (t := 27) ?hr ?_; (case hd => rfl); (case hg => rfl); (case hr => first | (go_simp; done) | (go_simp; rfl)); intro gb hgb w3 hbox hb3; have HBX := Aside0.mk hbox; have HB3 := Aside0.mk hb3; have HGB := Aside0.mk hgb; clear hbox hb3 hgb) | ((with_reducible refine gate_store (t := 27) (p := 6) (v := .tmp 20) rfl ?_); refine store_whole rfl rfl 27 (.tmp 6) (.tmp 20) rfl gb #[.int .i64 c.f0, .int .i64 c.f1.f0, .int .i64 c.f1.f1, .string c.f1.f2, .int .i64 c.f2.f0, .int .i64 c.f2.f1, .string c.f2.f2, .bool c.f3, .int .u8 c.f4, .string c.f5, .string c.f6, .string c.f7, .string c.f8, .slice Ap c.f9.length cp, .int .i64 c.f10, .bool c.f11, .bool c.f12, .string c.f13, .string c.f14] rfl rfl 27 _ HBX.out (by kernel_rfl) rfl (by simp [Value.oneCell']) ?_; intro w4 hbox4 hg4; have HBY := Aside0.mk hbox4; have HB4 := Aside0.mk (pw_below_grown HB3.out _ HB3.out.size hg4 (fun k hk => by injection hk with hk; have := HGB.out; omega)); clear hbox4 hg4) | ((with_reducible refine gate_dst (N := 21) rfl ?_); refine wpList_load_row rfl 27 (.tmp 6) rfl gb rfl 27 #[.int .i64 c.f0, .int .i64 c.f1.f0, .int .i64 c.f1.f1, .string c.f1.f2, .int .i64 c.f2.f0, .int .i64 c.f2.f1, .string c.f2.f2, .bool c.f3, .int .u8 c.f4, .string c.f5, .string c.f6, .string c.f7, .string c.f8, .slice Ap c.f9.length cp, .int .i64 c.f10, .bool c.f11, .bool c.f12, .string c.f13, .string c.f14] (0, 0) _ HBY.out Try.underlying27 rfl (by kernel_rfl) ?_) | (go_at_call 53; refine (runnelref19_addresses.calls 30 c.f0 c.f1.f0 c.f1.f1 c.f1.f2 c.f2.f0 c.f2.f1 c.f2.f2 c.f3 c.f4 c.f5 c.f6 c.f7 c.f8 Ap cp c.f9 c.f10 c.f11 c.f12 c.f13 c.f14 0 _ (Kd.C_below HC.out HB4.out) HCP.out HA.out).mono ?_; rintro e' w5 ⟨rfl, hb5⟩; have HB5 := Aside0.mk (below_step HB4.out hb5); have HBZ := Aside0.mk (blk_below HBY.out hb5); clear hb5; have hk0 : w5.cell? ⟨gb, 0, none⟩ = some (.int .i64 c.f0) := (blk_cell HBZ.out 0).trans rfl; have hk8 : w5.cell? ⟨gb, 8, none⟩ = some (.int .u8 c.f4) := (blk_cell HBZ.out 8).trans rfl; have hk9 : w5.cell? ⟨gb, 9, none⟩ = some (.string c.f5) := (blk_cell HBZ.out 9).trans rfl) | (go_at_call 54; refine (runnelref19_Label.calls (l0.length + 5) (some ad) c0 l0 i c.f5 x _ (HN.out _ (below_step HWB.out HB5.out)) HC0.out HX.out).mono ?_; rintro e' w6 ⟨rfl, hb6⟩; have HB6 := Aside0.mk (below_step HB5.out hb6.below); obtain ⟨q6, rfl⟩ := hb6.out))
          (try simp only [Act.put, List.setIfInBounds_toArray, List.set_cons_succ, List.set_cons_zero])
          go_big_quiet (fail)
          go_wp2
          go_ret2
          exact ⟨rfl, pw_below_drewN (below_step HWB.out HB5.out) _⟩

        · rw [if_neg c4] at hS
          have c4b : decide (d - 1 < 0) = false := decide_eq_false c4
          have HS2 := Aside0.mk hS
          have HD2 := Aside0.mk (show 0 ≤ d - 1 ∧ d - 1 ≤ 16 by have := HD.out; omega)
          clear hS c5 c4
          go_wp2_with (first | ((with_reducible refine gate_dst (N := 20) rfl ?_); refine wpList_load_any rfl 27 (.tmp 19) rfl _ rfl [.int .i64 c.f0, .int .i64 c.f1.f0, .int .i64 c.f1.f1, .string c.f1.f2, .int .i64 c.f2.f0, .int .i64 c.f2.f1, .string c.f2.f2, .bool c.f3, .int .u8 c.f4, .string c.f5, .string c.f6, .string c.f7, .string c.f8, .slice Ap c.f9.length cp, .int .i64 c.f10, .bool c.f11, .bool c.f12, .string c.f13, .string c.f14] _ HE.out Try.underlying27 rfl (by kernel_rfl) ?_) | ((with_reducible refine gate_dst (N := 6) rfl ?_); refine box_event ?hg (N := 6) ?hd (cs := #[.int .i64 0, .int .i64 0, .int .i64 0, .string ⟨#[]⟩, .int .i64 0, .int .i64 0, .string ⟨#[]⟩, .bool false, .int .u8 0, .string ⟨#[]⟩, .string ⟨#[]⟩, .string ⟨#[]⟩, .string ⟨#[]⟩, .slice none 0 0, .int .i64 0, .bool false, .bool false, .string ⟨#[]⟩, .string ⟨#[]⟩]) (t := 27) ?hr ?_; (case hd => rfl); (case hg => rfl); (case hr => first | (go_simp; done) | (go_simp; rfl)); intro gb hgb w3 hbox hb3; have HBX := Aside0.mk hbox; have HB3 := Aside0.mk hb3; have HGB := Aside0.mk hgb; clear hbox hb3 hgb) | ((with_reducible refine gate_store (t := 27) (p := 6) (v := .tmp 20) rfl ?_); refine store_whole rfl rfl 27 (.tmp 6) (.tmp 20) rfl gb #[.int .i64 c.f0, .int .i64 c.f1.f0, .int .i64 c.f1.f1, .string c.f1.f2, .int .i64 c.f2.f0, .int .i64 c.f2.f1, .string c.f2.f2, .bool c.f3, .int .u8 c.f4, .string c.f5, .string c.f6, .string c.f7, .string c.f8, .slice Ap c.f9.length cp, .int .i64 c.f10, .bool c.f11, .bool c.f12, .string c.f13, .string c.f14] rfl rfl 27 _ HBX.out (by kernel_rfl) rfl (by simp [Value.oneCell']) ?_; intro w4 hbox4 hg4; have HBY := Aside0.mk hbox4; have HB4 := Aside0.mk (pw_below_grown HB3.out _ HB3.out.size hg4 (fun k hk => by injection hk with hk; have := HGB.out; omega)); clear hbox4 hg4) | ((with_reducible refine gate_dst (N := 21) rfl ?_); refine wpList_load_row rfl 27 (.tmp 6) rfl gb rfl 27 #[.int .i64 c.f0, .int .i64 c.f1.f0, .int .i64 c.f1.f1, .string c.f1.f2, .int .i64 c.f2.f0, .int .i64 c.f2.f1, .string c.f2.f2, .bool c.f3, .int .u8 c.f4, .string c.f5, .string c.f6, .string c.f7, .string c.f8, .slice Ap c.f9.length cp, .int .i64 c.f10, .bool c.f11, .bool c.f12, .string c.f13, .string c.f14] (0, 0) _ HBY.out Try.underlying27 rfl (by kernel_rfl) ?_) | (go_at_call 53; refine (runnelref19_addresses.calls 30 c.f0 c.f1.f0 c.f1.f1 c.f1.f2 c.f2.f0 c.f2.f1 c.f2.f2 c.f3 c.f4 c.f5 c.f6 c.f7 c.f8 Ap cp c.f9 c.f10 c.f11 c.f12 c.f13 c.f14 0 _ (Kd.C_below HC.out HB4.out) HCP.out HA.out).mono ?_; rintro e' w5 ⟨rfl, hb5⟩; have HB5 := Aside0.mk (below_step HB4.out hb5); have HBZ := Aside0.mk (blk_below HBY.out hb5); clear hb5; have hk0 : w5.cell? ⟨gb, 0, none⟩ = some (.int .i64 c.f0) := (blk_cell HBZ.out 0).trans rfl; have hk8 : w5.cell? ⟨gb, 8, none⟩ = some (.int .u8 c.f4) := (blk_cell HBZ.out 8).trans rfl; have hk9 : w5.cell? ⟨gb, 9, none⟩ = some (.string c.f5) := (blk_cell HBZ.out 9).trans rfl) | (go_at_call 54; refine (runnelref19_Label.calls (l0.length + 5) (some ad) c0 l0 i c.f5 x _ (HN.out _ (below_step HWB.out HB5.out)) HC0.out HX.out).mono ?_; rintro e' w6 ⟨rfl, hb6⟩; have HB6 := Aside0.mk (below_step HB5.out hb6.below); obtain ⟨q6, rfl⟩ := hb6.out))
          go_roundg gk
          case rel => exact ⟨i + 1, d - 1, rfl, rfl, ⟨by have := HIP.out.1; clear hin hdp hdm; omega, by have := HI.out.2.1; clear hin hdp hdm; omega, HD2.out.1, HD2.out.2⟩, HS2, ⟨below_step HWB.out HB5.out⟩⟩
          case measure => (clear hin hdp hdm; omega)

      rw [if_neg c5] at hS
      have c5b : (c.f4 == 125) = false := beq_eq_false_iff_ne.mpr c5
      clear c5
      by_cases c6 : c.f4 = 58
      rotate_left
      · rw [if_neg c6] at hS
        have c6b : (c.f4 == 58) = false := beq_eq_false_iff_ne.mpr c6
        have HS2 := Aside0.mk hS
        have HD2 := Aside0.mk HD.out
        clear hS c6
        go_wp2_with (first | ((with_reducible refine gate_dst (N := 20) rfl ?_); refine wpList_load_any rfl 27 (.tmp 19) rfl _ rfl [.int .i64 c.f0, .int .i64 c.f1.f0, .int .i64 c.f1.f1, .string c.f1.f2, .int .i64 c.f2.f0, .int .i64 c.f2.f1, .string c.f2.f2, .bool c.f3, .int .u8 c.f4, .string c.f5, .string c.f6, .string c.f7, .string c.f8, .slice Ap c.f9.length cp, .int .i64 c.f10, .bool c.f11, .bool c.f12, .string c.f13, .string c.f14] _ HE.out Try.underlying27 rfl (by kernel_rfl) ?_) | ((with_reducible refine gate_dst (N := 6) rfl ?_); refine box_event ?hg (N := 6) ?hd (cs := #[.int .i64 0, .int .i64 0, .int .i64 0, .string ⟨#[]⟩, .int .i64 0, .int .i64 0, .string ⟨#[]⟩, .bool false, .int .u8 0, .string ⟨#[]⟩, .string ⟨#[]⟩, .string ⟨#[]⟩, .string ⟨#[]⟩, .slice none 0 0, .int .i64 0, .bool false, .bool false, .string ⟨#[]⟩, .string ⟨#[]⟩]) (t := 27) ?hr ?_; (case hd => rfl); (case hg => rfl); (case hr => first | (go_simp; done) | (go_simp; rfl)); intro gb hgb w3 hbox hb3; have HBX := Aside0.mk hbox; have HB3 := Aside0.mk hb3; have HGB := Aside0.mk hgb; clear hbox hb3 hgb) | ((with_reducible refine gate_store (t := 27) (p := 6) (v := .tmp 20) rfl ?_); refine store_whole rfl rfl 27 (.tmp 6) (.tmp 20) rfl gb #[.int .i64 c.f0, .int .i64 c.f1.f0, .int .i64 c.f1.f1, .string c.f1.f2, .int .i64 c.f2.f0, .int .i64 c.f2.f1, .string c.f2.f2, .bool c.f3, .int .u8 c.f4, .string c.f5, .string c.f6, .string c.f7, .string c.f8, .slice Ap c.f9.length cp, .int .i64 c.f10, .bool c.f11, .bool c.f12, .string c.f13, .string c.f14] rfl rfl 27 _ HBX.out (by kernel_rfl) rfl (by simp [Value.oneCell']) ?_; intro w4 hbox4 hg4; have HBY := Aside0.mk hbox4; have HB4 := Aside0.mk (pw_below_grown HB3.out _ HB3.out.size hg4 (fun k hk => by injection hk with hk; have := HGB.out; omega)); clear hbox4 hg4) | ((with_reducible refine gate_dst (N := 21) rfl ?_); refine wpList_load_row rfl 27 (.tmp 6) rfl gb rfl 27 #[.int .i64 c.f0, .int .i64 c.f1.f0, .int .i64 c.f1.f1, .string c.f1.f2, .int .i64 c.f2.f0, .int .i64 c.f2.f1, .string c.f2.f2, .bool c.f3, .int .u8 c.f4, .string c.f5, .string c.f6, .string c.f7, .string c.f8, .slice Ap c.f9.length cp, .int .i64 c.f10, .bool c.f11, .bool c.f12, .string c.f13, .string c.f14] (0, 0) _ HBY.out Try.underlying27 rfl (by kernel_rfl) ?_) | (go_at_call 53; refine (runnelref19_addresses.calls 30 c.f0 c.f1.f0 c.f1.f1 c.f1.f2 c.f2.f0 c.f2.f1 c.f2.f2 c.f3 c.f4 c.f5 c.f6 c.f7 c.f8 Ap cp c.f9 c.f10 c.f11 c.f12 c.f13 c.f14 0 _ (Kd.C_below HC.out HB4.out) HCP.out HA.out).mono ?_; rintro e' w5 ⟨rfl, hb5⟩; have HB5 := Aside0.mk (below_step HB4.out hb5); have HBZ := Aside0.mk (blk_below HBY.out hb5); clear hb5; have hk0 : w5.cell? ⟨gb, 0, none⟩ = some (.int .i64 c.f0) := (blk_cell HBZ.out 0).trans rfl; have hk8 : w5.cell? ⟨gb, 8, none⟩ = some (.int .u8 c.f4) := (blk_cell HBZ.out 8).trans rfl; have hk9 : w5.cell? ⟨gb, 9, none⟩ = some (.string c.f5) := (blk_cell HBZ.out 9).trans rfl) | (go_at_call 54; refine (runnelref19_Label.calls (l0.length + 5) (some ad) c0 l0 i c.f5 x _ (HN.out _ (below_step HWB.out HB5.out)) HC0.out HX.out).mono ?_; rintro e' w6 ⟨rfl, hb6⟩; have HB6 := Aside0.mk (below_step HB5.out hb6.below); obtain ⟨q6, rfl⟩ := hb6.out))
        go_roundg gk
        case rel => exact ⟨i + 1, d, rfl, rfl, ⟨by have := HIP.out.1; clear hin hdp hdm; omega, by have := HI.out.2.1; clear hin hdp hdm; omega, HD2.out.1, HD2.out.2⟩, HS2, ⟨below_step HWB.out HB5.out⟩⟩
        case measure => (clear hin hdp hdm; omega)

      rw [if_pos c6] at hS
      have c6b : (c.f4 == 58) = true := beq_iff_eq.mpr c6
      clear c6
      have htl : c.f5.toList = c.f5.data.toList := Lib.toList_data c.f5
      have hse : c.f5.size = c.f5.data.toList.length := size_list c.f5
      by_cases d3 : c.f5.size = 0
      · rw [if_pos d3] at hS
        have d3c : (c.f5.toList == ([] : List UInt8)) = true := by rw [htl, List.length_eq_zero_iff.1 (show c.f5.data.toList.length = 0 by rw [← hse]; exact d3)]; rfl
        clear htl hse d3
        obtain rfl := Option.some.inj hS
        have hE := HEnd.out
        unfold docE at hE
        dsimp only at hE
        rw [if_neg (by decide)] at hE
        obtain ⟨rfl, rfl⟩ := Prod.mk.inj (Option.some.inj hE)
        clear hS hE HEnd HS
        try clear c4
        try clear c3
        try clear c5
        go_wp2_with (first | ((with_reducible refine gate_dst (N := 20) rfl ?_); refine wpList_load_any rfl 27 (.tmp 19) rfl _ rfl [.int .i64 c.f0, .int .i64 c.f1.f0, .int .i64 c.f1.f1, .string c.f1.f2, .int .i64 c.f2.f0, .int .i64 c.f2.f1, .string c.f2.f2, .bool c.f3, .int .u8 c.f4, .string c.f5, .string c.f6, .string c.f7, .string c.f8, .slice Ap c.f9.length cp, .int .i64 c.f10, .bool c.f11, .bool c.f12, .string c.f13, .string c.f14] _ HE.out Try.underlying27 rfl (by kernel_rfl) ?_) | ((with_reducible refine gate_dst (N := 6) rfl ?_); refine box_event ?hg (N := 6) ?hd (cs := #[.int .i64 0, .int .i64 0, .int .i64 0, .string ⟨#[]⟩, .int .i64 0, .int .i64 0, .string ⟨#[]⟩, .bool false, .int .u8 0, .string ⟨#[]⟩, .string ⟨#[]⟩, .string ⟨#[]⟩, .string ⟨#[]⟩, .slice none 0 0, .int .i64 0, .bool false, .bool false, .string ⟨#[]⟩, .string ⟨#[]⟩]) (t := 27) ?hr ?_; (case hd => rfl); (case hg => rfl); (case hr => first | (go_simp; done) | (go_simp; rfl)); intro gb hgb w3 hbox hb3; have HBX := Aside0.mk hbox; have HB3 := Aside0.mk hb3; have HGB := Aside0.mk hgb; clear hbox hb3 hgb) | ((with_reducible refine gate_store (t := 27) (p := 6) (v := .tmp 20) rfl ?_); refine store_whole rfl rfl 27 (.tmp 6) (.tmp 20) rfl gb #[.int .i64 c.f0, .int .i64 c.f1.f0, .int .i64 c.f1.f1, .string c.f1.f2, .int .i64 c.f2.f0, .int .i64 c.f2.f1, .string c.f2.f2, .bool c.f3, .int .u8 c.f4, .string c.f5, .string c.f6, .string c.f7, .string c.f8, .slice Ap c.f9.length cp, .int .i64 c.f10, .bool c.f11, .bool c.f12, .string c.f13, .string c.f14] rfl rfl 27 _ HBX.out (by kernel_rfl) rfl (by simp [Value.oneCell']) ?_; intro w4 hbox4 hg4; have HBY := Aside0.mk hbox4; have HB4 := Aside0.mk (pw_below_grown HB3.out _ HB3.out.size hg4 (fun k hk => by injection hk with hk; have := HGB.out; omega)); clear hbox4 hg4) | ((with_reducible refine gate_dst (N := 21) rfl ?_); refine wpList_load_row rfl 27 (.tmp 6) rfl gb rfl 27 #[.int .i64 c.f0, .int .i64 c.f1.f0, .int .i64 c.f1.f1, .string c.f1.f2, .int .i64 c.f2.f0, .int .i64 c.f2.f1, .string c.f2.f2, .bool c.f3, .int .u8 c.f4, .string c.f5, .string c.f6, .string c.f7, .string c.f8, .slice Ap c.f9.length cp, .int .i64 c.f10, .bool c.f11, .bool c.f12, .string c.f13, .string c.f14] (0, 0) _ HBY.out Try.underlying27 rfl (by kernel_rfl) ?_) | (go_at_call 53; refine (runnelref19_addresses.calls 30 c.f0 c.f1.f0 c.f1.f1 c.f1.f2 c.f2.f0 c.f2.f1 c.f2.f2 c.f3 c.f4 c.f5 c.f6 c.f7 c.f8 Ap cp c.f9 c.f10 c.f11 c.f12 c.f13 c.f14 0 _ (Kd.C_below HC.out HB4.out) HCP.out HA.out).mono ?_; rintro e' w5 ⟨rfl, hb5⟩; have HB5 := Aside0.mk (below_step HB4.out hb5); have HBZ := Aside0.mk (blk_below HBY.out hb5); clear hb5; have hk0 : w5.cell? ⟨gb, 0, none⟩ = some (.int .i64 c.f0) := (blk_cell HBZ.out 0).trans rfl; have hk8 : w5.cell? ⟨gb, 8, none⟩ = some (.int .u8 c.f4) := (blk_cell HBZ.out 8).trans rfl; have hk9 : w5.cell? ⟨gb, 9, none⟩ = some (.string c.f5) := (blk_cell HBZ.out 9).trans rfl) | (go_at_call 54; refine (runnelref19_Label.calls (l0.length + 5) (some ad) c0 l0 i c.f5 x _ (HN.out _ (below_step HWB.out HB5.out)) HC0.out HX.out).mono ?_; rintro e' w6 ⟨rfl, hb6⟩; have HB6 := Aside0.mk (below_step HB5.out hb6.below); obtain ⟨q6, rfl⟩ := hb6.out))
        (try simp only [Act.put, List.setIfInBounds_toArray, List.set_cons_succ, List.set_cons_zero])
        go_big_quiet (fail)
        go_wp2
        go_ret2
        exact ⟨rfl, pw_below_drewN (below_step HWB.out HB5.out) _⟩

      rw [if_neg d3] at hS
      have d3c : (c.f5.toList == ([] : List UInt8)) = false := by
        rw [htl]
        refine beq_eq_false_iff_ne.2 fun e => d3 ?_
        rw [hse, e]
        rfl
      clear htl hse d3
      by_cases d4 : 32 < c.f5.size
      · rw [if_pos d4] at hS
        have d4b : decide ((32 : Int) < (c.f5.size : Int)) = true := decide_eq_true (by omega)
        clear d4
        obtain rfl := Option.some.inj hS
        have hE := HEnd.out
        unfold docE at hE
        dsimp only at hE
        rw [if_neg (by decide)] at hE
        obtain ⟨rfl, rfl⟩ := Prod.mk.inj (Option.some.inj hE)
        clear hS hE HEnd HS
        try clear c4
        try clear c3
        try clear c5
        go_wp2_with (first | ((with_reducible refine gate_dst (N := 20) rfl ?_); refine wpList_load_any rfl 27 (.tmp 19) rfl _ rfl [.int .i64 c.f0, .int .i64 c.f1.f0, .int .i64 c.f1.f1, .string c.f1.f2, .int .i64 c.f2.f0, .int .i64 c.f2.f1, .string c.f2.f2, .bool c.f3, .int .u8 c.f4, .string c.f5, .string c.f6, .string c.f7, .string c.f8, .slice Ap c.f9.length cp, .int .i64 c.f10, .bool c.f11, .bool c.f12, .string c.f13, .string c.f14] _ HE.out Try.underlying27 rfl (by kernel_rfl) ?_) | ((with_reducible refine gate_dst (N := 6) rfl ?_); refine box_event ?hg (N := 6) ?hd (cs := #[.int .i64 0, .int .i64 0, .int .i64 0, .string ⟨#[]⟩, .int .i64 0, .int .i64 0, .string ⟨#[]⟩, .bool false, .int .u8 0, .string ⟨#[]⟩, .string ⟨#[]⟩, .string ⟨#[]⟩, .string ⟨#[]⟩, .slice none 0 0, .int .i64 0, .bool false, .bool false, .string ⟨#[]⟩, .string ⟨#[]⟩]) (t := 27) ?hr ?_; (case hd => rfl); (case hg => rfl); (case hr => first | (go_simp; done) | (go_simp; rfl)); intro gb hgb w3 hbox hb3; have HBX := Aside0.mk hbox; have HB3 := Aside0.mk hb3; have HGB := Aside0.mk hgb; clear hbox hb3 hgb) | ((with_reducible refine gate_store (t := 27) (p := 6) (v := .tmp 20) rfl ?_); refine store_whole rfl rfl 27 (.tmp 6) (.tmp 20) rfl gb #[.int .i64 c.f0, .int .i64 c.f1.f0, .int .i64 c.f1.f1, .string c.f1.f2, .int .i64 c.f2.f0, .int .i64 c.f2.f1, .string c.f2.f2, .bool c.f3, .int .u8 c.f4, .string c.f5, .string c.f6, .string c.f7, .string c.f8, .slice Ap c.f9.length cp, .int .i64 c.f10, .bool c.f11, .bool c.f12, .string c.f13, .string c.f14] rfl rfl 27 _ HBX.out (by kernel_rfl) rfl (by simp [Value.oneCell']) ?_; intro w4 hbox4 hg4; have HBY := Aside0.mk hbox4; have HB4 := Aside0.mk (pw_below_grown HB3.out _ HB3.out.size hg4 (fun k hk => by injection hk with hk; have := HGB.out; omega)); clear hbox4 hg4) | ((with_reducible refine gate_dst (N := 21) rfl ?_); refine wpList_load_row rfl 27 (.tmp 6) rfl gb rfl 27 #[.int .i64 c.f0, .int .i64 c.f1.f0, .int .i64 c.f1.f1, .string c.f1.f2, .int .i64 c.f2.f0, .int .i64 c.f2.f1, .string c.f2.f2, .bool c.f3, .int .u8 c.f4, .string c.f5, .string c.f6, .string c.f7, .string c.f8, .slice Ap c.f9.length cp, .int .i64 c.f10, .bool c.f11, .bool c.f12, .string c.f13, .string c.f14] (0, 0) _ HBY.out Try.underlying27 rfl (by kernel_rfl) ?_) | (go_at_call 53; refine (runnelref19_addresses.calls 30 c.f0 c.f1.f0 c.f1.f1 c.f1.f2 c.f2.f0 c.f2.f1 c.f2.f2 c.f3 c.f4 c.f5 c.f6 c.f7 c.f8 Ap cp c.f9 c.f10 c.f11 c.f12 c.f13 c.f14 0 _ (Kd.C_below HC.out HB4.out) HCP.out HA.out).mono ?_; rintro e' w5 ⟨rfl, hb5⟩; have HB5 := Aside0.mk (below_step HB4.out hb5); have HBZ := Aside0.mk (blk_below HBY.out hb5); clear hb5; have hk0 : w5.cell? ⟨gb, 0, none⟩ = some (.int .i64 c.f0) := (blk_cell HBZ.out 0).trans rfl; have hk8 : w5.cell? ⟨gb, 8, none⟩ = some (.int .u8 c.f4) := (blk_cell HBZ.out 8).trans rfl; have hk9 : w5.cell? ⟨gb, 9, none⟩ = some (.string c.f5) := (blk_cell HBZ.out 9).trans rfl) | (go_at_call 54; refine (runnelref19_Label.calls (l0.length + 5) (some ad) c0 l0 i c.f5 x _ (HN.out _ (below_step HWB.out HB5.out)) HC0.out HX.out).mono ?_; rintro e' w6 ⟨rfl, hb6⟩; have HB6 := Aside0.mk (below_step HB5.out hb6.below); obtain ⟨q6, rfl⟩ := hb6.out))
        (try simp only [Act.put, List.setIfInBounds_toArray, List.set_cons_succ, List.set_cons_zero])
        go_big_quiet (fail)
        go_wp2
        go_ret2
        exact ⟨rfl, pw_below_drewN (below_step HWB.out HB5.out) _⟩

      rw [if_neg d4] at hS
      have d4b : decide ((32 : Int) < (c.f5.size : Int)) = false := decide_eq_false (by omega)
      clear d4
      obtain ⟨x, hx, hS⟩ := Option.bind_eq_some_iff.1 hS
      have HX := Aside0.mk hx
      clear hx
      by_cases d5 : 0 ≤ x
      · rw [if_pos d5] at hS
        have d5b : decide (0 ≤ x) = true := decide_eq_true d5
        clear d5
        obtain rfl := Option.some.inj hS
        have hE := HEnd.out
        unfold docE at hE
        dsimp only at hE
        rw [if_neg (by decide)] at hE
        obtain ⟨rfl, rfl⟩ := Prod.mk.inj (Option.some.inj hE)
        clear hS hE HEnd HS
        try clear c4
        try clear c3
        try clear c5
        go_wp2_with (first | ((with_reducible refine gate_dst (N := 20) rfl ?_); refine wpList_load_any rfl 27 (.tmp 19) rfl _ rfl [.int .i64 c.f0, .int .i64 c.f1.f0, .int .i64 c.f1.f1, .string c.f1.f2, .int .i64 c.f2.f0, .int .i64 c.f2.f1, .string c.f2.f2, .bool c.f3, .int .u8 c.f4, .string c.f5, .string c.f6, .string c.f7, .string c.f8, .slice Ap c.f9.length cp, .int .i64 c.f10, .bool c.f11, .bool c.f12, .string c.f13, .string c.f14] _ HE.out Try.underlying27 rfl (by kernel_rfl) ?_) | ((with_reducible refine gate_dst (N := 6) rfl ?_); refine box_event ?hg (N := 6) ?hd (cs := #[.int .i64 0, .int .i64 0, .int .i64 0, .string ⟨#[]⟩, .int .i64 0, .int .i64 0, .string ⟨#[]⟩, .bool false, .int .u8 0, .string ⟨#[]⟩, .string ⟨#[]⟩, .string ⟨#[]⟩, .string ⟨#[]⟩, .slice none 0 0, .int .i64 0, .bool false, .bool false, .string ⟨#[]⟩, .string ⟨#[]⟩]) (t := 27) ?hr ?_; (case hd => rfl); (case hg => rfl); (case hr => first | (go_simp; done) | (go_simp; rfl)); intro gb hgb w3 hbox hb3; have HBX := Aside0.mk hbox; have HB3 := Aside0.mk hb3; have HGB := Aside0.mk hgb; clear hbox hb3 hgb) | ((with_reducible refine gate_store (t := 27) (p := 6) (v := .tmp 20) rfl ?_); refine store_whole rfl rfl 27 (.tmp 6) (.tmp 20) rfl gb #[.int .i64 c.f0, .int .i64 c.f1.f0, .int .i64 c.f1.f1, .string c.f1.f2, .int .i64 c.f2.f0, .int .i64 c.f2.f1, .string c.f2.f2, .bool c.f3, .int .u8 c.f4, .string c.f5, .string c.f6, .string c.f7, .string c.f8, .slice Ap c.f9.length cp, .int .i64 c.f10, .bool c.f11, .bool c.f12, .string c.f13, .string c.f14] rfl rfl 27 _ HBX.out (by kernel_rfl) rfl (by simp [Value.oneCell']) ?_; intro w4 hbox4 hg4; have HBY := Aside0.mk hbox4; have HB4 := Aside0.mk (pw_below_grown HB3.out _ HB3.out.size hg4 (fun k hk => by injection hk with hk; have := HGB.out; omega)); clear hbox4 hg4) | ((with_reducible refine gate_dst (N := 21) rfl ?_); refine wpList_load_row rfl 27 (.tmp 6) rfl gb rfl 27 #[.int .i64 c.f0, .int .i64 c.f1.f0, .int .i64 c.f1.f1, .string c.f1.f2, .int .i64 c.f2.f0, .int .i64 c.f2.f1, .string c.f2.f2, .bool c.f3, .int .u8 c.f4, .string c.f5, .string c.f6, .string c.f7, .string c.f8, .slice Ap c.f9.length cp, .int .i64 c.f10, .bool c.f11, .bool c.f12, .string c.f13, .string c.f14] (0, 0) _ HBY.out Try.underlying27 rfl (by kernel_rfl) ?_) | (go_at_call 53; refine (runnelref19_addresses.calls 30 c.f0 c.f1.f0 c.f1.f1 c.f1.f2 c.f2.f0 c.f2.f1 c.f2.f2 c.f3 c.f4 c.f5 c.f6 c.f7 c.f8 Ap cp c.f9 c.f10 c.f11 c.f12 c.f13 c.f14 0 _ (Kd.C_below HC.out HB4.out) HCP.out HA.out).mono ?_; rintro e' w5 ⟨rfl, hb5⟩; have HB5 := Aside0.mk (below_step HB4.out hb5); have HBZ := Aside0.mk (blk_below HBY.out hb5); clear hb5; have hk0 : w5.cell? ⟨gb, 0, none⟩ = some (.int .i64 c.f0) := (blk_cell HBZ.out 0).trans rfl; have hk8 : w5.cell? ⟨gb, 8, none⟩ = some (.int .u8 c.f4) := (blk_cell HBZ.out 8).trans rfl; have hk9 : w5.cell? ⟨gb, 9, none⟩ = some (.string c.f5) := (blk_cell HBZ.out 9).trans rfl) | (go_at_call 54; refine (runnelref19_Label.calls (l0.length + 5) (some ad) c0 l0 i c.f5 x _ (HN.out _ (below_step HWB.out HB5.out)) HC0.out HX.out).mono ?_; rintro e' w6 ⟨rfl, hb6⟩; have HB6 := Aside0.mk (below_step HB5.out hb6.below); obtain ⟨q6, rfl⟩ := hb6.out))
        (try simp only [Act.put, List.setIfInBounds_toArray, List.set_cons_succ, List.set_cons_zero])
        go_big_quiet (fail)
        go_wp2
        go_ret2
        exact ⟨rfl, pw_below_drewN (below_step HWB.out HB6.out) _⟩

      · rw [if_neg d5] at hS
        have d5b : decide (0 ≤ x) = false := decide_eq_false d5
        have HS2 := Aside0.mk hS
        have HD2 := Aside0.mk HD.out
        clear hS d5
        go_wp2_with (first | ((with_reducible refine gate_dst (N := 20) rfl ?_); refine wpList_load_any rfl 27 (.tmp 19) rfl _ rfl [.int .i64 c.f0, .int .i64 c.f1.f0, .int .i64 c.f1.f1, .string c.f1.f2, .int .i64 c.f2.f0, .int .i64 c.f2.f1, .string c.f2.f2, .bool c.f3, .int .u8 c.f4, .string c.f5, .string c.f6, .string c.f7, .string c.f8, .slice Ap c.f9.length cp, .int .i64 c.f10, .bool c.f11, .bool c.f12, .string c.f13, .string c.f14] _ HE.out Try.underlying27 rfl (by kernel_rfl) ?_) | ((with_reducible refine gate_dst (N := 6) rfl ?_); refine box_event ?hg (N := 6) ?hd (cs := #[.int .i64 0, .int .i64 0, .int .i64 0, .string ⟨#[]⟩, .int .i64 0, .int .i64 0, .string ⟨#[]⟩, .bool false, .int .u8 0, .string ⟨#[]⟩, .string ⟨#[]⟩, .string ⟨#[]⟩, .string ⟨#[]⟩, .slice none 0 0, .int .i64 0, .bool false, .bool false, .string ⟨#[]⟩, .string ⟨#[]⟩]) (t := 27) ?hr ?_; (case hd => rfl); (case hg => rfl); (case hr => first | (go_simp; done) | (go_simp; rfl)); intro gb hgb w3 hbox hb3; have HBX := Aside0.mk hbox; have HB3 := Aside0.mk hb3; have HGB := Aside0.mk hgb; clear hbox hb3 hgb) | ((with_reducible refine gate_store (t := 27) (p := 6) (v := .tmp 20) rfl ?_); refine store_whole rfl rfl 27 (.tmp 6) (.tmp 20) rfl gb #[.int .i64 c.f0, .int .i64 c.f1.f0, .int .i64 c.f1.f1, .string c.f1.f2, .int .i64 c.f2.f0, .int .i64 c.f2.f1, .string c.f2.f2, .bool c.f3, .int .u8 c.f4, .string c.f5, .string c.f6, .string c.f7, .string c.f8, .slice Ap c.f9.length cp, .int .i64 c.f10, .bool c.f11, .bool c.f12, .string c.f13, .string c.f14] rfl rfl 27 _ HBX.out (by kernel_rfl) rfl (by simp [Value.oneCell']) ?_; intro w4 hbox4 hg4; have HBY := Aside0.mk hbox4; have HB4 := Aside0.mk (pw_below_grown HB3.out _ HB3.out.size hg4 (fun k hk => by injection hk with hk; have := HGB.out; omega)); clear hbox4 hg4) | ((with_reducible refine gate_dst (N := 21) rfl ?_); refine wpList_load_row rfl 27 (.tmp 6) rfl gb rfl 27 #[.int .i64 c.f0, .int .i64 c.f1.f0, .int .i64 c.f1.f1, .string c.f1.f2, .int .i64 c.f2.f0, .int .i64 c.f2.f1, .string c.f2.f2, .bool c.f3, .int .u8 c.f4, .string c.f5, .string c.f6, .string c.f7, .string c.f8, .slice Ap c.f9.length cp, .int .i64 c.f10, .bool c.f11, .bool c.f12, .string c.f13, .string c.f14] (0, 0) _ HBY.out Try.underlying27 rfl (by kernel_rfl) ?_) | (go_at_call 53; refine (runnelref19_addresses.calls 30 c.f0 c.f1.f0 c.f1.f1 c.f1.f2 c.f2.f0 c.f2.f1 c.f2.f2 c.f3 c.f4 c.f5 c.f6 c.f7 c.f8 Ap cp c.f9 c.f10 c.f11 c.f12 c.f13 c.f14 0 _ (Kd.C_below HC.out HB4.out) HCP.out HA.out).mono ?_; rintro e' w5 ⟨rfl, hb5⟩; have HB5 := Aside0.mk (below_step HB4.out hb5); have HBZ := Aside0.mk (blk_below HBY.out hb5); clear hb5; have hk0 : w5.cell? ⟨gb, 0, none⟩ = some (.int .i64 c.f0) := (blk_cell HBZ.out 0).trans rfl; have hk8 : w5.cell? ⟨gb, 8, none⟩ = some (.int .u8 c.f4) := (blk_cell HBZ.out 8).trans rfl; have hk9 : w5.cell? ⟨gb, 9, none⟩ = some (.string c.f5) := (blk_cell HBZ.out 9).trans rfl) | (go_at_call 54; refine (runnelref19_Label.calls (l0.length + 5) (some ad) c0 l0 i c.f5 x _ (HN.out _ (below_step HWB.out HB5.out)) HC0.out HX.out).mono ?_; rintro e' w6 ⟨rfl, hb6⟩; have HB6 := Aside0.mk (below_step HB5.out hb6.below); obtain ⟨q6, rfl⟩ := hb6.out))
        go_roundg gk
        case rel => exact ⟨i + 1, d, rfl, rfl, ⟨by have := HIP.out.1; clear hin hdp hdm; omega, by have := HI.out.2.1; clear hin hdp hdm; omega, HD2.out.1, HD2.out.2⟩, HS2, ⟨below_step HWB.out HB6.out⟩⟩
        case measure => (clear hin hdp hdm; omega)

end Go.Proofs.Ytdlbmajilmmapaa.F
