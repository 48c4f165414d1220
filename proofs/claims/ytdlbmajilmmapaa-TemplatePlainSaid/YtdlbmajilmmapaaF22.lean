/- template.Parse, at every text: it answers the parts, or the fault with its place, as parseT tells them. No condition. -/
import Derived.Test.YtdlbmajilmmapaaBytes
import Derived.WalkMore
namespace Go.Proofs.Ytdlbmajilmmapaa.F
open Go.RowKit Go.Proofs.YtdlbmajilmmapaaW.PrintWords Go.Proofs.YtdlbmajilmmapaaW.PrintLast Go.Proofs.YtdlbmajilmmapaaW.PrintMore
set_option linter.unusedVariables false
set_option linter.unusedSimpArgs false

/-- what text(s) leaves -/
def laidText (l : List S117) (s : ByteArray) : List S117 :=
  if l = [] then [⟨-1, s⟩] else if (rd_T117 l ((l.length : Int) - 1)).f0 < 0 then l.set (l.length - 1) ⟨(rd_T117 l ((l.length : Int) - 1)).f0, (rd_T117 l ((l.length : Int) - 1)).f1 ++ s⟩ else l ++ [⟨-1, s⟩]
def byteStr (b : UInt8) : ByteArray := ⟨#[b]⟩
def escT (l : List S117) (c : UInt8) : List S117 :=
  if 48 ≤ c.toNat ∧ c.toNat ≤ 57 then l ++ [⟨(c.toNat : Int) - 48, ⟨#[]⟩⟩] else if c = 110 then laidText l ⟨#[10]⟩ else laidText l (byteStr c)
def parseT : Nat → List S117 → List UInt8 → List S117 × Int × Int
  | _, l, [] => (l, 0, 0)
  | i, l, [b] => if b = 38 then (l ++ [⟨0, ⟨#[]⟩⟩], 0, 0) else if b = 10 then ([], 19, (i : Int)) else if b = 92 then ([], 6, (i : Int)) else (laidText l (byteStr b), 0, 0)
  | i, l, b :: c :: t => if b = 38 then parseT (i + 1) (l ++ [⟨0, ⟨#[]⟩⟩]) (c :: t) else if b = 10 then ([], 19, (i : Int)) else if b = 92 then parseT (i + 2) (escT l c) t else parseT (i + 1) (laidText l (byteStr b)) (c :: t)
def template_Parse.f (a0 : ByteArray) : Option (List (S117) × Int × Int) := if 4096 < a0.size then some ([], 2, 0) else some (parseT 0 [] a0.data.toList)

/-- What is known of a maker: its block, the parts, and what lay before. -/
def IsMaker (w0 w : World) (g : Nat) (l : List S117) : Prop :=
  ∃ v : Value, w.heap[g]? = some (.cells #[v] 113 (0, 0)) ∧ Kd.R k117 117 w w0.heap.size (fun _ => True) v l ∧ w0.heap.size ≤ g ∧ Below w0.heap.size w0 w

theorem IsMaker.put {w0 w1 : World} {g : Nat} {v v1 : Value} {l : List S117} (hb : w1.heap[g]? = some (.cells #[v] 113 (0, 0))) (hg : w0.heap.size ≤ g) (hR : Kd.R k117 117 w1 w0.heap.size (fun _ => True) v1 l) (hB : Below w0.heap.size w0 w1) :
    IsMaker w0 (w1.setCell ⟨g, 0, none⟩ v1) g l := by
  refine ⟨v1, ?_, ?_, hg, below_set hB hg⟩
  · have := blk_set hb 0 v1
    simpa using this
  · exact Kd.R_set hR hb (by decide) 0 v1

set_option maxHeartbeats 1000000 in
set_option maxRecDepth 100000 in
theorem maker_group (n : Int) (g : Nat) (l : List S117) (w0 w : World) (h : IsMaker w0 w g l) (hl : l.length < 5864062014805) :
    Calls Try.prog 58 #[.pointer (some ⟨g, 0, none⟩), .int .i64 n] w fun e w' => e = .returned (.tuple #[]) ∧ IsMaker w0 w' g (l ++ [⟨n, ⟨#[]⟩⟩]) := by
  obtain ⟨v, hblk, hR, hg, hB⟩ := h
  have hc : w.cell? ⟨g, 0, none⟩ = some v := by rw [blk_cell hblk]; rfl
  have HK := Aside0.mk hblk
  have HR := Aside0.mk hR
  have HB := Aside0.mk hB
  have HG := Aside0.mk hg
  obtain ⟨A, c, rfl⟩ := Kd.R_slice hR
  clear hblk hR hB hg
  go_enter Try.func58, Try.ntmps58
  go_wp2_with (at_builtin; refine Kd.R_append k117 (w0 := w0) w0.heap.size rfl (.tmp 8) (.tmp 11) 25 117 (.agg #[(.int .i64 0), (.string ⟨#[]⟩)]) 24 rfl Try.underlying25 info117 rfl (by decide) (by omega) (.slice A l.length c) l (⟨n, ⟨#[]⟩⟩ : S117) [.int .i64 n, .string ⟨#[]⟩] (fun _ => True) (fun _ => False) rfl rfl ?aP (fun _ hk => hk.elim) ?aF ?aO ?aB ?aS ?aL ?_; (case aP => exact k117_mkM _ _ _ (⟨n, ⟨#[]⟩⟩ : S117)); (case aB => exact HB.out); (case aF => exact fun _ _ => trivial); (case aO => exact HR.out); (case aS => exact HB.out.size); (case aL => omega); intro v1 w1 hR1 hB1 hg1 hat; have hne := Kd.R_ne HR.out HK.out (by decide); have hb1 := blk_grown HK.out hg1 hne; have HR1 := Aside0.mk hR1; have HB1 := Aside0.mk hB1; have HK1 := Aside0.mk hb1; have hc1 := blk_cell hb1 0; have hf1 := blk_frozen hb1 0; obtain ⟨A1, c1, rfl⟩ := Kd.R_slice hR1; clear hR1 hB1 hg1 hat hne hb1)
  go_end0
  exact ⟨rfl, IsMaker.put HK1.out HG.out (by have h := HR1.out; rw [List.length_append] at h; exact h) HB1.out⟩

theorem last_index {l : List S117} {k : Int} (hk : wrap64 ((l.length : Int) - 1) = k) (h0 : 0 ≤ k) (hl : l.length < 5864062014805) : l ≠ [] ∧ k = (l.length : Int) - 1 ∧ k < (l.length : Int) ∧ k.toNat = l.length - 1 := by
  have e : wrap64 ((l.length : Int) - 1) = (l.length : Int) - 1 := wrap_id (by omega) (by omega)
  rw [e] at hk
  refine ⟨?_, hk.symm, by omega, by omega⟩
  intro h
  subst h
  simp at hk
  omega
theorem last_none {l : List S117} {k : Int} (hk : wrap64 ((l.length : Int) - 1) = k) (h0 : ¬ 0 ≤ k) (hl : l.length < 5864062014805) : l = [] := by
  have e : wrap64 ((l.length : Int) - 1) = (l.length : Int) - 1 := wrap_id (by omega) (by omega)
  rw [e] at hk
  exact List.length_eq_zero_iff.1 (by omega)
theorem IsMaker.seg {w0 w1 : World} {g : Nat} {v : Value} {l : List S117} (hb : w1.heap[g]? = some (.cells #[v] 113 (0, 0))) (hg : w0.heap.size ≤ g) (hR : Kd.R k117 117 w1 w0.heap.size (fun _ => True) v l) (hB : Below w0.heap.size w0 w1) :
    IsMaker w0 w1 g l := ⟨v, hb, hR, hg, hB⟩

set_option maxHeartbeats 2000000 in
set_option maxRecDepth 100000 in
theorem maker_text (s : ByteArray) (g : Nat) (l : List S117) (w0 w : World) (h : IsMaker w0 w g l) (hl : l.length < 5864062014805) (hs : ∀ p ∈ l, p.f1.size ≤ 9007199254740992) (hss : s.size ≤ 9007199254740992) :
    Calls Try.prog 59 #[.pointer (some ⟨g, 0, none⟩), .string s] w fun e w' => e = .returned (.tuple #[]) ∧ IsMaker w0 w' g (laidText l s) := by
  obtain ⟨v, hblk, hR, hg, hB⟩ := h
  have hc : w.cell? ⟨g, 0, none⟩ = some v := by rw [blk_cell hblk]; rfl
  have HK := Aside0.mk hblk
  have HR := Aside0.mk hR
  have HB := Aside0.mk hB
  have HG := Aside0.mk hg
  have HS := Aside0.mk hs
  obtain ⟨A, c, rfl⟩ := Kd.R_slice hR
  clear hblk hR hB hg hs
  obtain ⟨k, hk⟩ : ∃ k : Int, wrap64 ((l.length : Int) - 1) = k := ⟨_, rfl⟩
  have hkw : IntKind.i64.wrap ((l.length : Int) - 1) = k := (i64_w _).trans hk
  by_cases c4 : 0 ≤ k
  · have c4b0 : decide (0 ≤ k) = true := decide_eq_true c4
    obtain ⟨hne, hkl, hkn, hkt⟩ := last_index hk c4 hl
    obtain ⟨go, co, eo, gb, gl, cl, HG2⟩ := Kd.R_form HR.out (by omega)
    injection eo with ea _ ec
    subst ea; subst ec
    have GG := Aside0.mk HG2
    have GB := Aside0.mk gb
    obtain ⟨ce, hcl, hM, hcc, hfr⟩ := Kd.R_elem HR.out z117 k c4 hkn
    obtain rfl := k117_openM hM
    have hx_0 : w.cell? ⟨go, k.toNat * 2, none⟩ = some (.int .i64 (rd_T117 l k).f0) := hcc 0 _ rfl
    have hx_1 : w.cell? ⟨go, k.toNat * 2 + 1, none⟩ = some (.string (rd_T117 l k).f1) := hcc 1 _ rfl
    have hf_0 : w.frozen? ⟨go, k.toNat * 2, none⟩ = false := hfr 0
    have hf_1 : w.frozen? ⟨go, k.toNat * 2 + 1, none⟩ = false := hfr 1
    have p1 := eq_true c4
    have q1 := eq_true hkn
    by_cases c8 : (rd_T117 l k).f0 < 0
    · have c8b0 : decide ((rd_T117 l k).f0 < 0) = true := decide_eq_true c8
      have hsz : (rd_T117 l k).f1.size ≤ 9007199254740992 := by
        refine HS.out _ ?_
        unfold rd_T117
        rw [List.getD_eq_getElem?_getD, List.getElem?_eq_getElem (by omega)]
        exact List.getElem_mem _
      have c9 : (rd_T117 l k).f1.size + s.size ≤ 9223372036854775807 := by omega
      have c9b0 := eq_true c9
      have c9b1 : decide ((rd_T117 l k).f1.size + s.size ≤ 9223372036854775807) = true := decide_eq_true c9
      have c9b2 : (9223372036854775807 < (rd_T117 l k).f1.size + s.size) = False := eq_false (Nat.not_lt.2 c9)
      have HP := Kd.R_seg HR.out k c4 hkn (seg := [.string ((rd_T117 l k).f1 ++ s)]) (j := 1) hcl hcc (show 2 ≤ 2 from by decide) (x' := (⟨(rd_T117 l k).f0, (rd_T117 l k).f1 ++ s⟩ : S117)) (k117_mkM _ _ _ (⟨(rd_T117 l k).f0, (rd_T117 l k).f1 ++ s⟩ : S117)) (fun _ hk => hk)
      have HQ := Aside0.mk HP
      have e : laidText l s = l.set k.toNat (⟨(rd_T117 l k).f0, (rd_T117 l k).f1 ++ s⟩ : S117) := by
        unfold laidText
        rw [if_neg hne, ← hkl, if_pos c8, hkt]
      rw [e]
      clear hcl hM hcc hfr HP e c4 c8 c9 hkl hkt hne gb gl HG2 hsz hkn
      go_enter Try.func59, Try.ntmps59
      go_wp2
      (try simp only [Exit.inBlock, Exit.then])
      refine bodyPost_ret (results_none rfl _ _ _) rfl ?_
      refine ⟨rfl, IsMaker.seg (blk_grown HK.out HQ.out.2 ?_) HG.out HQ.out.1 ?_⟩
      · intro e
        injection e with e
        subst e
        have := HK.out.symm.trans GG.out
        injection this with this
        injection this with _ this _
        cases this
      · exact below_set HB.out GB.out
    · have c8b0 : decide ((rd_T117 l k).f0 < 0) = false := decide_eq_false c8
      have e : laidText l s = l ++ [⟨-1, s⟩] := by
        unfold laidText
        rw [if_neg hne, ← hkl, if_neg c8]
      rw [e]
      clear hcl hM hcc hfr e c4 c8 hkl hkt hne gb gl HG2 hkn
      go_enter Try.func59, Try.ntmps59
      go_wp2_with (at_builtin; refine Kd.R_append k117 (w0 := w0) w0.heap.size rfl (.tmp 40) (.tmp 43) 25 117 (.agg #[(.int .i64 0), (.string ⟨#[]⟩)]) 24 rfl Try.underlying25 info117 rfl (by decide) (by omega) (.slice (some ⟨go, 0, none⟩) l.length c) l (⟨-1, s⟩ : S117) [.int .i64 (-1), .string s] (fun _ => True) (fun _ => False) rfl rfl ?aP (fun _ hk => hk.elim) ?aF ?aO ?aB ?aS ?aL ?_; (case aP => exact k117_mkM _ _ _ (⟨-1, s⟩ : S117)); (case aB => exact HB.out); (case aF => exact fun _ _ => trivial); (case aO => exact HR.out); (case aS => exact HB.out.size); (case aL => omega); intro v1 w1 hR1 hB1 hg1 hat; have hne := Kd.R_ne HR.out HK.out (by decide); have hb1 := blk_grown HK.out hg1 hne; have HR1 := Aside0.mk hR1; have HB1 := Aside0.mk hB1; have HK1 := Aside0.mk hb1; have hc1 := blk_cell hb1 0; have hf1 := blk_frozen hb1 0; obtain ⟨A1, c1, rfl⟩ := Kd.R_slice hR1; clear hR1 hB1 hg1 hat hne hb1)
      go_end0
      exact ⟨rfl, IsMaker.put HK1.out HG.out (by have h := HR1.out; rw [List.length_append] at h; exact h) HB1.out⟩
  · have c4b0 : decide (0 ≤ k) = false := decide_eq_false c4
    have e : laidText l s = l ++ [⟨-1, s⟩] := by
      unfold laidText
      have := last_none hk c4 hl
      rw [if_pos this, this]
      rfl
    rw [e]
    clear c4 e
    go_enter Try.func59, Try.ntmps59
    go_wp2_with (at_builtin; refine Kd.R_append k117 (w0 := w0) w0.heap.size rfl (.tmp 40) (.tmp 43) 25 117 (.agg #[(.int .i64 0), (.string ⟨#[]⟩)]) 24 rfl Try.underlying25 info117 rfl (by decide) (by omega) (.slice A l.length c) l (⟨-1, s⟩ : S117) [.int .i64 (-1), .string s] (fun _ => True) (fun _ => False) rfl rfl ?aP (fun _ hk => hk.elim) ?aF ?aO ?aB ?aS ?aL ?_; (case aP => exact k117_mkM _ _ _ (⟨-1, s⟩ : S117)); (case aB => exact HB.out); (case aF => exact fun _ _ => trivial); (case aO => exact HR.out); (case aS => exact HB.out.size); (case aL => omega); intro v1 w1 hR1 hB1 hg1 hat; have hne := Kd.R_ne HR.out HK.out (by decide); have hb1 := blk_grown HK.out hg1 hne; have HR1 := Aside0.mk hR1; have HB1 := Aside0.mk hB1; have HK1 := Aside0.mk hb1; have hc1 := blk_cell hb1 0; have hf1 := blk_frozen hb1 0; obtain ⟨A1, c1, rfl⟩ := Kd.R_slice hR1; clear hR1 hB1 hg1 hat hne hb1)
    go_end0
    exact ⟨rfl, IsMaker.put HK1.out HG.out (by have h := HR1.out; rw [List.length_append] at h; exact h) HB1.out⟩

theorem byteStr_of {s : ByteArray} {i : Nat} {b : UInt8} {l : List UInt8} (h : s.data.toList.drop i = b :: l) : s.extract i (i + 1) = byteStr b := by
  have e : (s.extract i (i + 1)).data.toList = [b] := by rw [Lib.extract_data, h, show i + 1 - i = 1 from by omega]; rfl
  cases h2 : s.extract i (i + 1) with
  | mk d =>
    rw [h2] at e
    unfold byteStr
    congr 1
    exact Array.toList_inj.1 e
theorem laid_length (l : List S117) (s : ByteArray) : (laidText l s).length ≤ l.length + 1 := by
  unfold laidText; (repeat' split) <;> simp_all
theorem laid_sizes (l : List S117) (s : ByteArray) (n : Nat) (h : ∀ p ∈ l, p.f1.size ≤ n) : ∀ p ∈ laidText l s, p.f1.size ≤ n + s.size := by
  unfold laidText
  by_cases h0 : l = []
  · rw [if_pos h0]
    intro p hp
    rw [List.mem_singleton] at hp
    subst hp
    exact Nat.le_add_left _ _
  · rw [if_neg h0]
    have hlen : 0 < l.length := List.length_pos_iff.2 h0
    by_cases h1 : (rd_T117 l ((l.length : Int) - 1)).f0 < 0
    · rw [if_pos h1]
      intro p hp
      rcases List.mem_or_eq_of_mem_set hp with hp | rfl
      · exact Nat.le_trans (h p hp) (Nat.le_add_right _ _)
      · have : (rd_T117 l ((l.length : Int) - 1)).f1.size ≤ n := by
          refine h _ ?_
          unfold rd_T117
          rw [List.getD_eq_getElem?_getD, List.getElem?_eq_getElem (by omega)]
          exact List.getElem_mem _
        show (_ ++ s : ByteArray).size ≤ _
        rw [append_size]
        omega
    · rw [if_neg h1]
      intro p hp
      rcases List.mem_append.1 hp with hp | hp
      · exact Nat.le_trans (h p hp) (Nat.le_add_right _ _)
      · rw [List.mem_singleton] at hp
        subst hp
        exact Nat.le_add_left _ _
theorem group_sizes (l : List S117) (x : Int) (n : Nat) (h : ∀ p ∈ l, p.f1.size ≤ n) : ∀ p ∈ l ++ [(⟨x, ⟨#[]⟩⟩ : S117)], p.f1.size ≤ n := by
  intro p hp
  rcases List.mem_append.1 hp with hp | hp
  · exact h p hp
  · rw [List.mem_singleton] at hp
    subst hp
    exact Nat.zero_le _
theorem parseT_amp (i : Nat) (l : List S117) (t : List UInt8) : parseT i l (38 :: t) = parseT (i + 1) (l ++ [⟨0, ⟨#[]⟩⟩]) t := by
  cases t <;> simp [parseT]
theorem parseT_line (i : Nat) (l : List S117) (t : List UInt8) : parseT i l (10 :: t) = ([], 19, (i : Int)) := by
  cases t <;> simp [parseT]
theorem parseT_cut (i : Nat) (l : List S117) : parseT i l [92] = ([], 6, (i : Int)) := by simp [parseT]
theorem parseT_esc (i : Nat) (l : List S117) (c : UInt8) (t : List UInt8) : parseT i l (92 :: c :: t) = parseT (i + 2) (escT l c) t := by simp [parseT]
theorem parseT_text (i : Nat) (l : List S117) (b : UInt8) (t : List UInt8) (h1 : b ≠ 38) (h2 : b ≠ 10) (h3 : b ≠ 92) : parseT i l (b :: t) = parseT (i + 1) (laidText l (byteStr b)) t := by
  cases t <;> simp [parseT, h1, h2, h3]

set_option maxHeartbeats 4000000 in
set_option maxRecDepth 100000 in
theorem template_Parse.calls (a0 : ByteArray) (r1 : List S117) (r2 : Int) (r3 : Int) (w : World) (h : template_Parse.f a0 = some (r1, r2, r3)) :
    Calls Try.prog 22 #[.string a0] w fun e w' => ∃ v0_ : Value, e = .returned (.tuple #[v0_, .agg #[.int .i64 r2, .int .i64 r3]]) ∧ Kd.R k117 117 w' w.heap.size (fun _ => True) v0_ r1 ∧ Below w.heap.size w w' := by
  unfold template_Parse.f at h
  by_cases c1 : 4096 < a0.size
  · rw [if_pos c1] at h
    simp only [Option.some.injEq, Prod.mk.injEq] at h
    obtain ⟨rfl, rfl, rfl⟩ := h
    have c1b : decide (4096 < (a0.size : Int)) = true := decide_eq_true (by omega)
    go_enter Try.func22, Try.ntmps22
    go_wp2
    go_step3
    go_wp2
    rw [Exit.noGoto_ret]
    refine bodyPost_ret (results_tc (ty := 30) rfl _ _ w.heap.size 30 #[.int .i64 2, .int .i64 0] (0, 0) _ rfl (blk_new w _) Try.underlying30 rfl (by kernel_rfl)) rfl ?_
    exact ⟨_, rfl, Kd.R_nil _ _ _ _ _, below_alloc (Below.refl _ _) _⟩
  · rw [if_neg c1] at h
    have c1b : decide (4096 < (a0.size : Int)) = false := decide_eq_false (by omega)
    simp only [Option.some.injEq] at h
    have H := Aside0.mk h
    clear h
    have hs : a0.size ≤ 4096 := by omega
    go_enter Try.func22, Try.ntmps22
    go_wp2
    go_step3
    go_wp2
    have HW1 := Aside0.mk (⟨blk_new w (.cells #[.int .i64 0, .int .i64 0] 30 (0, 0)), below_alloc (Below.refl _ _) _, by rw [World.size_alloc]⟩ : (w.alloc (.cells #[.int .i64 0, .int .i64 0] 30 (0, 0))).heap[w.heap.size]? = some (.cells #[.int .i64 0, .int .i64 0] 30 (0, 0)) ∧ Below w.heap.size w (w.alloc (.cells #[.int .i64 0, .int .i64 0] 30 (0, 0))) ∧ (w.alloc (.cells #[.int .i64 0, .int .i64 0] 30 (0, 0))).heap.size = w.heap.size + 1)
    generalize (w.alloc (Obj.cells #[.int .i64 0, .int .i64 0] 30 (0, 0))) = w1 at HW1 ⊢
    have HM : Aside0 (IsMaker w1 (w1.alloc (.cells #[.slice none 0 0] 113 (0, 0))) (w.heap.size + 1) []) := ⟨⟨_, by rw [← HW1.out.2.2]; exact blk_new w1 _, Kd.R_nil _ _ _ _ _, by rw [HW1.out.2.2]; exact Nat.le_refl _, below_alloc (Below.refl _ _) _⟩⟩
    generalize (w1.alloc (.cells #[.slice none 0 0] 113 (0, 0))) = w2 at HM ⊢
    obtain ⟨g, hg⟩ : ∃ g, w.heap.size + 1 = g := ⟨_, rfl⟩
    rw [hg] at HM ⊢
    clear hg
    go_step3
    go_wp2
    go_loopg [5] a0.size (fun gk v5 wr => ∃ (x : Int) (i : Nat) (l : List S117) (t : List UInt8), v5 = .int .i64 x ∧ Aside0 (x = (i : Int) ∧ a0.data.toList.drop i = t ∧ i ≤ a0.size ∧ a0.size ≤ i + gk ∧ l.length ≤ i ∧ (∀ p ∈ l, p.f1.size ≤ i)) ∧ Aside0 (parseT i l t = (r1, r2, r3)) ∧ Aside0 (IsMaker w1 wr g l))
    case atStart => exact ⟨0, 0, [], a0.data.toList, rfl, ⟨rfl, rfl, Nat.zero_le _, by omega, Nat.le_refl _, by simp⟩, H, HM⟩
    case round =>
      clear H HM c1 c1b
      obtain ⟨x, i, l, t, rfl, HI, HE, HM⟩ := hrel
      have hq : wr.heap[w.heap.size]? = some (.cells #[.int .i64 0, .int .i64 0] 30 (0, 0)) := by
        obtain ⟨_, _, _, _, hB⟩ := HM.out
        exact blk_below HW1.out.1 hB
      have HQ := Aside0.mk hq
      have hq0 : wr.cell? ⟨w.heap.size, 0, none⟩ = some (.int .i64 0) := blk_cell hq 0
      have hq1 : wr.cell? ⟨w.heap.size, 1, none⟩ = some (.int .i64 0) := blk_cell hq 1
      have hf0 := blk_frozen hq 0
      have hf1 := blk_frozen hq 1
      have HWB : Aside0 (Below w.heap.size w wr) := by
        obtain ⟨_, _, _, _, hB⟩ := HM.out
        exact ⟨below_step HW1.out.2.1 hB⟩
      clear hq
      cases t with
      | nil =>
        have c2 : decide (x < (a0.size : Int)) = false := by
          obtain ⟨hx, ht, hi, hgk, hll, hls⟩ := HI.out
          have hie := at_nil ht hi
          exact decide_eq_false (by omega)
        have hE := HE.out
        rw [parseT] at hE
        simp only [Prod.mk.injEq] at hE
        obtain ⟨rfl, rfl, rfl⟩ := hE
        clear HE
        obtain ⟨v, hblk, hR, hg, hB⟩ := HM.out
        have hc : wr.cell? ⟨g, 0, none⟩ = some v := by rw [blk_cell hblk]; rfl
        have HR := Aside0.mk hR
        have HBL := Aside0.mk hblk
        clear hblk hR hg hB
        go_wp2
        rw [Exit.noGoto_ret]
        have hb2 := blk_set (blk_set HQ.out 0 (.int .i64 0)) 1 (.int .i64 0)
        refine bodyPost_ret (results_tc (ty := 30) rfl _ _ w.heap.size 30 #[.int .i64 0, .int .i64 0] (0, 0) _ rfl hb2 Try.underlying30 rfl (by kernel_rfl)) rfl ?_
        exact ⟨_, rfl, Kd.R_lower (Kd.R_set (Kd.R_set HR.out HQ.out (by decide) 0 _) (blk_set HQ.out 0 _) (by decide) 1 _) HW1.out.2.1.size, below_set (below_set HWB.out (Nat.le_refl _)) (Nat.le_refl _)⟩
      | cons b t =>
        obtain ⟨hxi, ht, hi, hgk, hll, hls⟩ := HI.out
        obtain ⟨hlt, hb, hdr⟩ := at_cons ht
        have hbs := byteStr_of ht
        rw [← hxi] at hb
        have c2 : decide (x < (a0.size : Int)) = true := decide_eq_true (by omega)
        have p1 : (0 ≤ x) = True := eq_true (by omega)
        have q1 : (x < (a0.size : Int)) = True := eq_true (by omega)
        obtain ⟨gk, rfl⟩ : ∃ m, gk = m + 1 := ⟨gk - 1, by omega⟩
        have hi9 : i ≤ 9007199254740992 := by omega
        have hlm : l.length < 5864062014805 := by omega
        have hji := wrap_one hi9
        rw [← hxi] at hji
        obtain ⟨j, hj⟩ : ∃ j : Int, wrap64 (x + 1) = j := ⟨_, rfl⟩
        have hjw : IntKind.i64.wrap (x + 1) = j := (i64_w _).trans hj
        rw [hj] at hji
        clear hj
        have HL := Aside0.mk hls
        have HB := Aside0.mk hb
        have HBS := Aside0.mk hbs
        have HX := Aside0.mk (And.intro hxi hji)
        have HN := Aside0.mk (And.intro hlt (And.intro hi9 (And.intro hlm (And.intro hgk hll))))
        have HT := Aside0.mk (And.intro ht hdr)
        clear hls hb hbs hxi hji hlt hi9 hlm hgk hll ht hdr HI hi
        have hbx := bt_at a0 x
        by_cases e38 : b = 38
        · have c3 : (bt a0 x == 38) = true := by rw [HB.out]; exact beq_iff_eq.2 (eq_num (x := 38) 38 rfl e38)
          have hE := HE.out
          rw [e38, parseT_amp] at hE
          have HE2 := Aside0.mk hE
          clear hE HE e38
          go_wp2_with (go_at_call 58; refine (maker_group 0 g l w1 _ HM.out HN.out.2.2.1).mono ?_; rintro e w' ⟨rfl, hM⟩)
          go_roundg gk
          case rel =>
            exact ⟨j, i + 1, _, t, rfl, ⟨HX.out.2, HT.out.2, HN.out.1, by have := HN.out.2.2.2.1; omega, by rw [List.length_append]; have := HN.out.2.2.2.2; simp; omega, group_sizes l 0 (i + 1) (fun p hp => Nat.le_succ_of_le (HL.out p hp))⟩, HE2, ⟨hM⟩⟩
          case measure => omega
        have c3 : (bt a0 x == 38) = false := by rw [HB.out]; exact beq_eq_false_iff_ne.2 (ne_num (x := 38) 38 rfl e38)
        by_cases e10 : b = 10
        · have c4 : (bt a0 x == 10) = true := by rw [HB.out]; exact beq_iff_eq.2 (eq_num (x := 10) 10 rfl e10)
          have hE := HE.out
          rw [e10, parseT_line] at hE
          simp only [Prod.mk.injEq] at hE
          rw [← HX.out.1] at hE
          obtain ⟨rfl, rfl, rfl⟩ := hE
          clear HE e10 e38
          go_wp2
          rw [Exit.noGoto_ret]
          have hb2 := blk_set (blk_set HQ.out 0 (.int .i64 19)) 1 (.int .i64 x)
          refine bodyPost_ret (results_tc (ty := 30) rfl _ _ w.heap.size 30 #[.int .i64 19, .int .i64 x] (0, 0) _ rfl hb2 Try.underlying30 rfl (by kernel_rfl)) rfl ?_
          exact ⟨_, rfl, Kd.R_nil _ _ _ _ _, below_set (below_set HWB.out (Nat.le_refl _)) (Nat.le_refl _)⟩
        have c4 : (bt a0 x == 10) = false := by rw [HB.out]; exact beq_eq_false_iff_ne.2 (ne_num (x := 10) 10 rfl e10)
        by_cases e92 : b = 92
        · have c5 : (bt a0 x == 92) = true := by rw [HB.out]; exact beq_iff_eq.2 (eq_num (x := 92) 92 rfl e92)
          cases t with
          | nil =>
            have c6 : (j == (a0.size : Int)) = true := by
              have := at_nil HT.out.2 HN.out.1
              have h2 := HX.out.2
              exact beq_iff_eq.2 (by omega)
            have hjm : IntKind.i64.wrap (j - 1) = x := by
              rw [i64_w]
              have h1 := HX.out.1
              have h2 := HX.out.2
              have h3 := HN.out.2.1
              rw [wrap_id (by omega) (by omega)]
              omega
            have hE := HE.out
            rw [e92, parseT_cut] at hE
            simp only [Prod.mk.injEq] at hE
            rw [← HX.out.1] at hE
            obtain ⟨rfl, rfl, rfl⟩ := hE
            clear HE e10 e38 e92
            go_wp2
            rw [Exit.noGoto_ret]
            have hb2 := blk_set (blk_set HQ.out 0 (.int .i64 6)) 1 (.int .i64 x)
            refine bodyPost_ret (results_tc (ty := 30) rfl _ _ w.heap.size 30 #[.int .i64 6, .int .i64 x] (0, 0) _ rfl hb2 Try.underlying30 rfl (by kernel_rfl)) rfl ?_
            exact ⟨_, rfl, Kd.R_nil _ _ _ _ _, below_set (below_set HWB.out (Nat.le_refl _)) (Nat.le_refl _)⟩
          | cons c t2 =>
            obtain ⟨hlt2, hb2, hdr2⟩ := at_cons HT.out.2
            have hbs2 := byteStr_of HT.out.2
            have h2 := HX.out.2
            have c6 : (j == (a0.size : Int)) = false := beq_eq_false_iff_ne.2 (by omega)
            rw [← h2] at hb2
            have p2 : (0 ≤ j) = True := eq_true (by omega)
            have q2 : (j < (a0.size : Int)) = True := eq_true (by omega)
            have hi10 : i + 1 ≤ 9007199254740992 := by omega
            have hj2 := wrap_one hi10
            rw [← h2] at hj2
            obtain ⟨j2, hj⟩ : ∃ j2 : Int, wrap64 (j + 1) = j2 := ⟨_, rfl⟩
            have hjw2 : IntKind.i64.wrap (j + 1) = j2 := (i64_w _).trans hj
            rw [hj] at hj2
            clear hj
            have hE := HE.out
            rw [e92, parseT_esc] at hE
            have HE2 := Aside0.mk hE
            have HC := Aside0.mk hb2
            have HBS2 := Aside0.mk hbs2
            have HX2 := Aside0.mk hj2
            have HT2 := Aside0.mk hdr2
            have HLT := Aside0.mk hlt2
            have hbj := bt_at a0 j
            have r1' : (j ≤ j2) = True := eq_true (by omega)
            have r1d : decide (j ≤ j2) = true := decide_eq_true (by omega)
            have r2' : (j2 ≤ (a0.size : Int)) = True := eq_true (by omega)
            have r2d : decide (j2 ≤ (a0.size : Int)) = true := decide_eq_true (by omega)
            have p2d : decide (0 ≤ j) = true := decide_eq_true (by omega)
            have hex : a0.extract j.toNat j2.toNat = byteStr c := by
              rw [← hbs2, show j.toNat = i + 1 from by omega, show j2.toNat = i + 1 + 1 from by omega]
            have HEX := Aside0.mk hex
            clear hE HE e10 e38 e92 hb2 hbs2 hj2 hdr2 hlt2 h2 hi10 hex
            have HF : ∀ L w', L.length ≤ l.length + 1 → (∀ p ∈ L, p.f1.size ≤ i + 1) → parseT (i + 2) L t2 = (r1, r2, r3) → IsMaker w1 w' g L → Aside0 (j2 = ((i + 2 : Nat) : Int) ∧ a0.data.toList.drop (i + 2) = t2 ∧ i + 2 ≤ a0.size ∧ a0.size ≤ i + 2 + gk ∧ L.length ≤ i + 2 ∧ (∀ p ∈ L, p.f1.size ≤ i + 2)) := fun L w' h1 h2 _ _ => ⟨HX2.out, HT2.out, HLT.out, by have := HN.out.2.2.2.1; omega, by have := HN.out.2.2.2.2; omega, fun p hp => Nat.le_succ_of_le (h2 p hp)⟩
            have HF' := Aside0.mk HF
            clear HF
            by_cases e0 : 48 ≤ c.toNat ∧ c.toNat ≤ 57
            · have d1 : decide (48 ≤ bt a0 j) = true := by rw [HC.out]; exact decide_eq_true (by omega)
              have d2 : decide (bt a0 j ≤ 57) = true := by rw [HC.out]; exact decide_eq_true (by omega)
              obtain ⟨d, hd⟩ : ∃ d : Int, bt a0 j - 48 = d := ⟨_, rfl⟩
              have hdc : d = (c.toNat : Int) - 48 := by rw [← hd, HC.out]
              have hdw : IntKind.u8.wrap (bt a0 j - 48) = d := by
                rw [hd]
                simp [IntKind.wrap, IntKind.bits, IntKind.signed]
                omega
              have hdi : IntKind.i64.wrap d = d := by rw [i64_w]; exact wrap_id (by omega) (by omega)
              have he := HE2.out
              rw [escT, if_pos e0, ← hdc] at he
              have HE3 := Aside0.mk he
              clear he HE2 hd hdc
              go_wp2_with (go_at_call 58; refine (maker_group d g l w1 _ HM.out HN.out.2.2.1).mono ?_; rintro e w' ⟨rfl, hM⟩)
              go_roundg gk
              case rel =>
                exact ⟨j2, i + 2, _, t2, rfl, HF'.out _ w' (by rw [List.length_append]; exact Nat.le_refl _) (group_sizes l d (i + 1) (fun p hp => Nat.le_succ_of_le (HL.out p hp))) HE3.out hM, HE3, ⟨hM⟩⟩
              case measure => omega
            · have he := HE2.out
              rw [escT, if_neg e0] at he
              have ed : decide (48 ≤ bt a0 j) = false ∨ (decide (48 ≤ bt a0 j) = true ∧ decide (bt a0 j ≤ 57) = false) := by
                rw [HC.out]
                by_cases h : 48 ≤ c.toNat
                · have : ¬ c.toNat ≤ 57 := fun h' => e0 ⟨h, h'⟩
                  exact .inr ⟨decide_eq_true (by omega), decide_eq_false (by omega)⟩
                · exact .inl (decide_eq_false (by omega))
              clear e0
              by_cases e110 : c = 110
              · have d3 : (bt a0 j == 110) = true := by rw [HC.out]; exact beq_iff_eq.2 (eq_num (x := 110) 110 rfl e110)
                rw [if_pos e110] at he
                have HE3 := Aside0.mk he
                clear he HE2 e110
                (rcases ed with d1 | ⟨d1, d2⟩) <;>
                  (go_wp2_with (go_at_call 59; refine (maker_text ⟨#[10]⟩ g l w1 _ HM.out HN.out.2.2.1 (fun p hp => Nat.le_trans (HL.out p hp) HN.out.2.1) (by decide)).mono ?_; rintro e w' ⟨rfl, hM⟩)
                   go_roundg gk
                   case rel =>
                     exact ⟨j2, i + 2, _, t2, rfl, HF'.out _ w' (laid_length _ _) (laid_sizes l ⟨#[10]⟩ i HL.out) HE3.out hM, HE3, ⟨hM⟩⟩
                   case measure => omega)
              · have d3 : (bt a0 j == 110) = false := by rw [HC.out]; exact beq_eq_false_iff_ne.2 (ne_num (x := 110) 110 rfl e110)
                rw [if_neg e110, ← HEX.out] at he
                have HE3 := Aside0.mk he
                clear he HE2 e110
                (rcases ed with d1 | ⟨d1, d2⟩) <;>
                  (go_wp2_with (go_at_call 59; refine (maker_text (a0.extract j.toNat j2.toNat) g l w1 _ HM.out HN.out.2.2.1 (fun p hp => Nat.le_trans (HL.out p hp) HN.out.2.1) (by rw [HEX.out]; exact (by decide : (1 : Nat) ≤ 9007199254740992))).mono ?_; rintro e w' ⟨rfl, hM⟩)
                   go_roundg gk
                   case rel =>
                     exact ⟨j2, i + 2, _, t2, rfl, HF'.out _ w' (laid_length _ _) (by have := laid_sizes l (a0.extract j.toNat j2.toNat) i HL.out; rw [HEX.out] at this ⊢; exact this) HE3.out hM, HE3, ⟨hM⟩⟩
                   case measure => omega)
        have c5 : (bt a0 x == 92) = false := by rw [HB.out]; exact beq_eq_false_iff_ne.2 (ne_num (x := 92) 92 rfl e92)
        have hE := HE.out
        rw [parseT_text _ _ _ _ e38 e10 e92] at hE
        have r1' : (x ≤ j) = True := by have h1 := HX.out.1; have h2 := HX.out.2; exact eq_true (by omega)
        have r1d : decide (x ≤ j) = true := decide_eq_true (of_eq_true r1')
        have r2' : (j ≤ (a0.size : Int)) = True := by have h1 := HN.out.1; have h2 := HX.out.2; exact eq_true (by omega)
        have r2d : decide (j ≤ (a0.size : Int)) = true := decide_eq_true (of_eq_true r2')
        have p1d : decide (0 ≤ x) = true := decide_eq_true (of_eq_true p1)
        have hex : a0.extract x.toNat j.toNat = byteStr b := by
          have h1 := HX.out.1
          have h2 := HX.out.2
          rw [← HBS.out, show x.toNat = i from by omega, show j.toNat = i + 1 from by omega]
        rw [← hex] at hE
        have HEX := Aside0.mk hex
        have HE2 := Aside0.mk hE
        clear hE HE e10 e38 e92 hex
        go_wp2_with (go_at_call 59; refine (maker_text (a0.extract x.toNat j.toNat) g l w1 _ HM.out HN.out.2.2.1 (fun p hp => Nat.le_trans (HL.out p hp) HN.out.2.1) (by rw [HEX.out]; exact (by decide : (1 : Nat) ≤ 9007199254740992))).mono ?_; rintro e w' ⟨rfl, hM⟩)
        go_roundg gk
        case rel =>
          exact ⟨j, i + 1, _, t, rfl, ⟨HX.out.2, HT.out.2, HN.out.1, by have := HN.out.2.2.2.1; omega, by have := HN.out.2.2.2.2; have := laid_length l (a0.extract x.toNat j.toNat); omega, by have := laid_sizes l (a0.extract x.toNat j.toNat) i HL.out; rw [HEX.out] at this ⊢; exact this⟩, HE2, ⟨hM⟩⟩
        case measure => omega

end Go.Proofs.Ytdlbmajilmmapaa.F
