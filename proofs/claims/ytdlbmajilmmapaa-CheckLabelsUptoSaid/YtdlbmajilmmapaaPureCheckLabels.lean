/- Of layer 19 (check): jumps to labels that stand anywhere go together; the first one without its label is told; a label twice is told at its second place. -/
import Derived.Test.YtdlbmajilmmapaaF5
import Derived.Test.YtdlbmajilmmapaaF18
import Derived.Test.YtdlbmajilmmapaaBytes
namespace Go.Proofs.Ytdlbmajilmmapaa.Pure
open Go.RowKit Go.Proofs.Ytdlbmajilmmapaa.F Go.Proofs.YtdlbmajilmmapaaW.PrintWords Go.Proofs.YtdlbmajilmmapaaW.PrintLast

/-! ## Check on jumps and labels -/
def cmdL (x8 at_ : Int) (s : ByteArray) : S27 := ⟨at_, ⟨0, 0, ⟨#[]⟩⟩, ⟨0, 0, ⟨#[]⟩⟩, false, x8, s, ⟨#[]⟩, ⟨#[]⟩, ⟨#[]⟩, [], 0, false, false, ⟨#[]⟩, ⟨#[]⟩⟩
theorem ad_of (x8 at_ : Int) (s : ByteArray) (h : x8 = 98 ∨ x8 = 116 ∨ x8 = 58) : adF (cmdL x8 at_ s) = some 0 := by
  rcases h with rfl | rfl | rfl <;> simp [adF, cmdL, check_addresses.f, check_addresses.j0, check_addresses.j1, check_addresses.j2] <;> rfl
theorem meet_jump (x8 at_ : Int) (s : ByteArray) (h : x8 = 98 ∨ x8 = 116) (ls : List (List UInt8)) (op : List Int) : meetF (cmdL x8 at_ s) ls op = some (0, ls, op) := by
  unfold meetF
  rw [ad_of x8 at_ s (h.elim .inl (fun h => .inr (.inl h))), Option.map_some]
  unfold meetE
  have e4 : (cmdL x8 at_ s).f4 = x8 := rfl
  rw [if_pos rfl, e4, if_neg (by omega), if_neg (by omega), if_neg (by omega)]
theorem meet_label (at_ : Int) (s : ByteArray) (ls : List (List UInt8)) (op : List Int) : meetF (cmdL 58 at_ s) ls op = some (if s.size = 0 ∨ 32 < s.size ∨ s.data.toList ∈ ls then (22, ls, op) else (0, ls ++ [s.data.toList], op)) := by
  unfold meetF
  rw [ad_of 58 at_ s (.inr (.inr rfl)), Option.map_some]
  rfl
theorem checkS_append : ∀ (l m : List S27) (ls : List (List UInt8)) (op : List Int), checkS (l ++ m) ls op = (checkS l ls op).bind fun r => if r.1 = 0 then checkS m r.2.2.1 r.2.2.2 else some r
  | [], m, ls, op => by rw [List.nil_append, checkS, Option.bind_some, if_pos rfl]
  | c :: l, m, ls, op => by
    rw [List.cons_append, checkS, checkS]
    cases hm : meetF c ls op with
    | none => rfl
    | some r =>
      rw [Option.bind_some, Option.bind_some]
      by_cases h : r.1 = 0
      · rw [if_pos h, if_pos h, checkS_append l m]
      · rw [if_neg h, if_neg h, Option.bind_some, if_neg h]
def Jumps (js : List S27) (own : List ByteArray) : Prop := ∀ c ∈ js, ∃ (x8 at_ : Int) (s : ByteArray), c = cmdL x8 at_ s ∧ (x8 = 98 ∨ x8 = 116) ∧ s ∈ own
theorem checkS_jumps {own : List ByteArray} : ∀ (js : List S27), Jumps js own → ∀ (ls : List (List UInt8)) (op : List Int), checkS js ls op = some (0, 0, ls, op)
  | [], _, _, _ => rfl
  | c :: js, h, ls, op => by
    obtain ⟨x8, at_, s, rfl, h8, _⟩ := h c List.mem_cons_self
    rw [checkS, meet_jump x8 at_ s h8, Option.bind_some, if_pos rfl]
    exact checkS_jumps js (fun c hc => h c (List.mem_cons_of_mem _ hc)) ls op
def labelsAt : Nat → List ByteArray → List S27
  | _, [] => []
  | j, s :: l => cmdL 58 (1000 + (j : Int)) s :: labelsAt (j + 1) l
structure Own (own : List ByteArray) : Prop where
  ok : ∀ s ∈ own, s.size ≠ 0 ∧ s.size ≤ 32
  nodup : (own.map (fun s => s.data.toList)).Nodup
  few : own.length ≤ 10
theorem checkS_labels : ∀ (l : List ByteArray) (j : Nat) (ls : List (List UInt8)) (op : List Int), (∀ s ∈ l, s.size ≠ 0 ∧ s.size ≤ 32) → (ls ++ l.map (fun s => s.data.toList)).Nodup → checkS (labelsAt j l) ls op = some (0, 0, ls ++ l.map (fun s => s.data.toList), op)
  | [], j, ls, op, _, _ => by simp [labelsAt, checkS]
  | s :: l, j, ls, op, h, hn => by
    have hs := h s List.mem_cons_self
    have hni : s.data.toList ∉ ls := by
      rw [List.map_cons] at hn
      intro hin
      exact (List.nodup_append.1 hn).2.2 _ hin _ List.mem_cons_self rfl
    rw [labelsAt, checkS, meet_label, if_neg (fun x => x.elim hs.1 (fun x => x.elim (by omega) hni)), Option.bind_some, if_pos rfl]
    have hn2 : ((ls ++ [s.data.toList]) ++ l.map (fun s => s.data.toList)).Nodup := by rw [List.append_assoc]; exact hn
    have := checkS_labels l (j + 1) (ls ++ [s.data.toList]) op (fun s hs => h s (List.mem_cons_of_mem _ hs)) hn2
    rw [List.append_assoc] at this
    exact this
theorem checkJ_all {own : List ByteArray} (ls : List (List UInt8)) (hin : ∀ s ∈ own, s.data.toList ∈ ls) : ∀ (js : List S27), Jumps js own → ∀ (j : Nat) (l : List ByteArray), checkJ ls (js ++ labelsAt j l) = (0, 0)
  | [], _, j, [] => rfl
  | [], h, j, s :: l => by
    rw [List.nil_append, labelsAt, checkJ]
    have e4 : (cmdL 58 (1000 + (j : Int)) s).f4 = 58 := rfl
    rw [e4, if_neg (by simp)]
    exact checkJ_all ls hin [] h (j + 1) l
  | c :: js, h, j, l => by
    obtain ⟨x8, at_, s, rfl, h8, hs⟩ := h c List.mem_cons_self
    rw [List.cons_append, checkJ, if_neg (fun x => x.2.2 (hin s hs))]
    exact checkJ_all ls hin js (fun c hc => h c (List.mem_cons_of_mem _ hc)) j l
theorem fit_small (l : List S27) (h : ∀ c ∈ l, c.f5.size ≤ 32) : fitC l = true := by
  unfold fitC
  rw [List.all_eq_true]
  exact fun c hc => decide_eq_true (by have := h c hc; omega)
theorem fit_jumps {own : List ByteArray} (ho : Own own) {js : List S27} (hj : Jumps js own) : ∀ c ∈ js, c.f5.size ≤ 32 := by
  intro c hc
  obtain ⟨_, _, s, rfl, _, hs⟩ := hj c hc
  exact (ho.ok s hs).2
theorem fit_labels : ∀ (l : List ByteArray) (j : Nat), (∀ s ∈ l, s.size ≤ 32) → ∀ c ∈ labelsAt j l, c.f5.size ≤ 32
  | [], _, _, c, hc => by cases hc
  | s :: l, j, h, c, hc => by
    rw [labelsAt] at hc
    rcases List.mem_cons.1 hc with rfl | hc
    · exact h s List.mem_cons_self
    · exact fit_labels l (j + 1) (fun s hs => h s (List.mem_cons_of_mem _ hs)) c hc
/-- jumps alone: the first one is told -/
theorem check_jumps {own : List ByteArray} (ho : Own own) (js : List S27) (hj : Jumps js own) (h0 : ∀ c, js.head? = some c → c.f0 = 0) : check_Check.f js = some (if js = [] then (0, 0) else (22, 0)) := by
  unfold check_Check.f
  rw [if_pos (fit_small js (fit_jumps ho hj)), checkS_jumps js hj, Option.map_some]
  cases js with
  | nil => rfl
  | cons c js =>
    obtain ⟨x8, at_, s, rfl, h8, hs⟩ := hj c List.mem_cons_self
    have hat : at_ = 0 := h0 _ rfl
    unfold checkE
    rw [if_pos rfl]
    show some (checkJ [] (cmdL x8 at_ s :: js)) = _
    rw [checkJ, if_pos ⟨h8, (ho.ok s hs).1, by simp⟩, hat]
    rfl
theorem check_all {own : List ByteArray} (ho : Own own) (js : List S27) (hj : Jumps js own) : check_Check.f (js ++ labelsAt 0 own) = some (0, 0) := by
  unfold check_Check.f
  have hfit : fitC (js ++ labelsAt 0 own) = true := fit_small _ (fun c hc => (List.mem_append.1 hc).elim (fit_jumps ho hj c) (fit_labels own 0 (fun s hs => (ho.ok s hs).2) c))
  rw [if_pos hfit, checkS_append, checkS_jumps js hj, Option.bind_some, if_pos rfl, checkS_labels own 0 [] [] ho.ok (by simpa using ho.nodup), Option.map_some]
  show some (checkJ ([] ++ own.map (fun s => s.data.toList)) (js ++ labelsAt 0 own)) = _
  rw [checkJ_all (own := own) _ (fun s hs => by rw [List.nil_append]; exact List.mem_map_of_mem hs) js hj]
theorem check_twice {own : List ByteArray} (ho : Own own) (js : List S27) (hj : Jumps js own) (s : ByteArray) (hs : s ∈ own) : check_Check.f ((js ++ labelsAt 0 own) ++ [cmdL 58 5 s]) = some (22, 5) := by
  unfold check_Check.f
  have hfit : fitC ((js ++ labelsAt 0 own) ++ [cmdL 58 5 s]) = true := by
    refine fit_small _ (fun c hc => ?_)
    rcases List.mem_append.1 hc with hc | hc
    · exact (List.mem_append.1 hc).elim (fit_jumps ho hj c) (fit_labels own 0 (fun s hs => (ho.ok s hs).2) c)
    · rw [List.mem_singleton] at hc
      subst hc
      exact (ho.ok s hs).2
  rw [if_pos hfit, checkS_append, checkS_append, checkS_jumps js hj, Option.bind_some, if_pos rfl, checkS_labels own 0 [] [] ho.ok (by simpa using ho.nodup), Option.bind_some, if_pos rfl]
  show (checkS [cmdL 58 5 s] ([] ++ own.map (fun s => s.data.toList)) []).map _ = _
  rw [checkS, meet_label, if_pos (.inr (.inr (by rw [List.nil_append]; exact List.mem_map_of_mem hs))), Option.bind_some, if_neg (show ¬ (22 : Int) = 0 by decide), Option.map_some]
  rfl
/-! ## the law's loops -/
theorem rdOf_get (l : List ByteArray) (i : Nat) (h : i < l.length) : rdOf ByteArray.empty l (i : Int) = l[i] := by
  unfold rdOf
  rw [show (i : Int).toNat = i from rfl, List.getD_eq_getElem?_getD, List.getElem?_eq_getElem h]
  rfl
theorem labelsAt_append : ∀ (l m : List ByteArray) (j : Nat), labelsAt j (l ++ m) = labelsAt j l ++ labelsAt (j + l.length) m
  | [], m, j => by simp [labelsAt]
  | s :: l, m, j => by
    rw [List.cons_append, labelsAt, labelsAt, labelsAt_append l m (j + 1), List.length_cons, show j + 1 + l.length = j + (l.length + 1) from by omega]
    rfl
theorem labelsAt_length : ∀ (l : List ByteArray) (j : Nat), (labelsAt j l).length = l.length
  | [], _ => rfl
  | s :: l, j => by rw [labelsAt, List.length_cons, labelsAt_length l, List.length_cons]

theorem l3_ends {own : List ByteArray} (ho : Own own) (h0 : own ≠ []) (js : List S27) (hj : Jumps js own) (hl : js.length ≤ 1048576) : ∀ (m j : Nat), j + m = own.length → ∃ K, ∀ k, K ≤ k → runnellaw19_CheckLabels.l3 k own (js ++ labelsAt 0 (own.take j)) own (own.length : Int) (j : Int) = some true := by
  have hpos : 0 < own.length := List.length_pos_iff.2 h0
  have hfew := ho.few
  intro m
  induction m with
  | zero =>
    intro j hjm
    refine ⟨1, fun k hk => ?_⟩
    obtain ⟨k, rfl⟩ : ∃ q, k = q + 1 := ⟨k - 1, by omega⟩
    have hlen : (js ++ labelsAt 0 own).length ≤ 1048586 := by rw [List.length_append, labelsAt_length]; have := ho.few; omega
    rw [show own.take j = own from List.take_of_length_le (by omega), runnellaw19_CheckLabels.l3, if_neg (by omega), if_pos (by simp only [List.length_nil]; omega), Option.bind_some, if_pos (by omega), if_pos (by rw [List.nil_append]; omega), check_all ho js hj, Option.bind_some, if_pos (by rfl), List.nil_append]
    have hr : rdOf ByteArray.empty own 0 = own[0] := rdOf_get own 0 hpos
    rw [hr]
    have := check_twice ho js hj own[0] (List.getElem_mem hpos)
    unfold cmdL at this
    rw [this, Option.bind_some]
    rfl
  | succ m ih =>
    intro j hjm
    obtain ⟨K, hK⟩ := ih (j + 1) (by omega)
    refine ⟨K + 1, fun k hk => ?_⟩
    obtain ⟨k, rfl⟩ : ∃ q, k = q + 1 := ⟨k - 1, by omega⟩
    have hjl : j < own.length := by omega
    have hlen : (js ++ labelsAt 0 (own.take j)).length < 651562446089 := by rw [List.length_append, labelsAt_length, List.length_take]; have := ho.few; omega
    rw [runnellaw19_CheckLabels.l3, if_pos (by omega), if_pos (by omega), if_pos (by omega), if_pos hlen, rdOf_get own j hjl, wrap_id (by omega) (by omega), F.wrap_one (by omega)]
    have := hK k (by omega)
    rw [List.take_succ_eq_append_getElem hjl, labelsAt_append, Nat.zero_add, List.length_take, Nat.min_eq_left (by omega), ← List.append_assoc] at this
    exact this
theorem bt_two (x : Nat) (h : x < 2) : bt (⟨#[98, 116]⟩ : ByteArray) (x : Int) = 98 ∨ bt (⟨#[98, 116]⟩ : ByteArray) (x : Int) = 116 := by
  match x, h with
  | 0, _ => exact .inl rfl
  | 1, _ => exact .inr rfl
theorem tmod_n (m n : Nat) : Int.tmod (m : Int) (n : Int) = ((m % n : Nat) : Int) := by
  rw [Int.tmod_eq_emod_of_nonneg (by omega)]
  rfl
theorem rd_int (l : List Int) (i : Nat) (h : i < l.length) : rd l (i : Int) = l[i] := by
  unfold rd
  rw [show (i : Int).toNat = i from rfl, List.getD_eq_getElem?_getD, List.getElem?_eq_getElem h]
  rfl
theorem l2_ends {own : List ByteArray} (ho : Own own) (h0 : own ≠ []) (order : List Int) (hw : ∀ x ∈ order, ∃ b : UInt8, x = (b.toNat : Int)) (hol : order.length ≤ 1048576) : ∀ (m j : Nat) (js : List S27), j + m = order.length → Jumps js own → js.length = j → (∀ c, js.head? = some c → c.f0 = 0) →
    ∃ K, ∀ k, K ≤ k → runnellaw19_CheckLabels.l2 k own js order (order.length : Int) (j : Int) = some true := by
  have hpos : 0 < own.length := List.length_pos_iff.2 h0
  have hfew := ho.few
  intro m
  induction m with
  | zero =>
    intro j js hjm hj hl hh
    obtain ⟨K, hK⟩ := l3_ends ho h0 js hj (by omega) own.length 0 (by omega)
    refine ⟨K + 1, fun k hk => ?_⟩
    obtain ⟨k, rfl⟩ : ∃ q, k = q + 1 := ⟨k - 1, by omega⟩
    have h3 := hK k (by omega)
    rw [List.take_zero, labelsAt, List.append_nil] at h3
    rw [runnellaw19_CheckLabels.l2, if_neg (by omega), check_jumps ho js hj hh, Option.bind_some, if_neg ?_]
    · exact h3
    · cases js with
      | nil => decide
      | cons c js =>
        rw [if_neg (by simp), decide_eq_true (by simp only [List.length_cons]; omega)]
        decide
  | succ m ih =>
    intro j js hjm hj hl hh
    have hjl : j < order.length := by omega
    obtain ⟨b, hb⟩ := hw _ (List.getElem_mem hjl)
    have hb2 : b.toNat < 256 := b.toNat_lt
    have hmod : b.toNat % own.length < own.length := Nat.mod_lt _ hpos
    have hm2 : b.toNat % 2 < 2 := Nat.mod_lt _ (by decide)
    have hadd : Jumps (js ++ [cmdL (bt (⟨#[98, 116]⟩ : ByteArray) ((b.toNat % 2 : Nat) : Int)) (j : Int) own[b.toNat % own.length]]) own := by
      intro c hc
      rcases List.mem_append.1 hc with hc | hc
      · exact hj c hc
      · rw [List.mem_singleton] at hc
        exact ⟨_, _, _, hc, bt_two _ hm2, List.getElem_mem hmod⟩
    have hhead : ∀ c, (js ++ [cmdL (bt (⟨#[98, 116]⟩ : ByteArray) ((b.toNat % 2 : Nat) : Int)) (j : Int) own[b.toNat % own.length]]).head? = some c → c.f0 = 0 := by
      intro c hc
      cases js with
      | nil =>
        simp at hc
        rw [← hc]
        show (j : Int) = 0
        simp at hl
        omega
      | cons d js => exact hh c (by simpa using hc)
    obtain ⟨K, hK⟩ := ih (j + 1) _ (by omega) hadd (by simp [hl]) hhead
    refine ⟨K + 1, fun k hk => ?_⟩
    obtain ⟨k, rfl⟩ : ∃ q, k = q + 1 := ⟨k - 1, by omega⟩
    have h3 := hK k (by omega)
    have e2 : Int.tmod (b.toNat : Int) 2 = ((b.toNat % 2 : Nat) : Int) := tmod_n b.toNat 2
    rw [runnellaw19_CheckLabels.l2, if_pos (by omega), if_pos (by omega), if_pos (by omega), rd_int order j hjl, hb, e2, wrap_id (x := (b.toNat : Int)) (by omega) (by omega), tmod_n, if_pos (by omega), if_pos (by omega), if_neg (by omega), if_pos (by omega), if_pos (by omega), if_pos (by omega), rdOf_get own _ hmod, F.wrap_one (by omega)]
    exact h3

theorem l1_ends (order : List Int) (own : List ByteArray) (hfew : own.length ≤ 10) (s : ByteArray) (names : List ByteArray) (nn : Int) (j : Int) (hA : ∃ K, ∀ k, K ≤ k → runnellaw19_CheckLabels.l0 k order own names nn (wrap64 (j + 1)) = some true) : ∀ (m i : Nat) (known : Bool), i + m = own.length →
    ((known || (own.drop i).any (fun t => t.toList == s.toList)) = false → own.length < 10 → ∃ K, ∀ k, K ≤ k → runnellaw19_CheckLabels.l0 k order (own ++ [s]) names nn (wrap64 (j + 1)) = some true) →
    ∃ K, ∀ k, K ≤ k → runnellaw19_CheckLabels.l1 k order own s known names nn j own (own.length : Int) (i : Int) = some true := by
  intro m
  induction m with
  | zero =>
    intro i known him hB
    rw [List.drop_eq_nil_of_le (by omega)] at hB
    obtain ⟨K1, h1⟩ := hA
    cases known with
    | true =>
      refine ⟨K1 + 1, fun k hk => ?_⟩
      obtain ⟨k, rfl⟩ : ∃ q, k = q + 1 := ⟨k - 1, by omega⟩
      rw [runnellaw19_CheckLabels.l1, if_neg (by omega), if_pos rfl]
      exact h1 k (by omega)
    | false =>
      by_cases h10 : own.length < 10
      · obtain ⟨K2, h2⟩ := hB rfl h10
        refine ⟨K2 + 1, fun k hk => ?_⟩
        obtain ⟨k, rfl⟩ : ∃ q, k = q + 1 := ⟨k - 1, by omega⟩
        rw [runnellaw19_CheckLabels.l1, if_neg (by omega), if_neg (by decide), if_pos (by omega), if_pos (by omega)]
        exact h2 k (by omega)
      · refine ⟨K1 + 1, fun k hk => ?_⟩
        obtain ⟨k, rfl⟩ : ∃ q, k = q + 1 := ⟨k - 1, by omega⟩
        rw [runnellaw19_CheckLabels.l1, if_neg (by omega), if_neg (by decide), if_neg (by omega)]
        exact h1 k (by omega)
  | succ m ih =>
    intro i known him hB
    have hil : i < own.length := by omega
    rw [List.drop_eq_getElem_cons hil, List.any_cons] at hB
    cases known with
    | true =>
      obtain ⟨K, hK⟩ := ih (i + 1) true (by omega) (fun h => by simp at h)
      refine ⟨K + 1, fun k hk => ?_⟩
      obtain ⟨k, rfl⟩ : ∃ q, k = q + 1 := ⟨k - 1, by omega⟩
      rw [runnellaw19_CheckLabels.l1, if_pos (by omega), if_pos (by omega), if_pos (by omega), if_pos rfl, F.wrap_one (by omega)]
      exact hK k (by omega)
    | false =>
      obtain ⟨K, hK⟩ := ih (i + 1) ((own[i]).toList == s.toList) (by omega) (fun h => hB (by rw [Bool.false_or]; exact h))
      refine ⟨K + 1, fun k hk => ?_⟩
      obtain ⟨k, rfl⟩ : ∃ q, k = q + 1 := ⟨k - 1, by omega⟩
      rw [runnellaw19_CheckLabels.l1, if_pos (by omega), if_pos (by omega), if_pos (by omega), if_neg (by decide), rdOf_get own i hil, F.wrap_one (by omega)]
      exact hK k (by omega)

theorem mn_min (a b : Nat) : mn (a : Int) (b : Int) = ((min a b : Nat) : Int) := by unfold mn; (repeat' split) <;> omega
theorem own_nil : Own [] := ⟨by simp, by simp, by simp⟩
theorem own_more {own : List ByteArray} (ho : Own own) (s : ByteArray) (h32 : s.size ≤ 32) (hk : ((s.toList == ([] : List UInt8)) || own.any (fun t => t.toList == s.toList)) = false) (h10 : own.length < 10) : Own (own ++ [s]) := by
  rw [Bool.or_eq_false_iff] at hk
  obtain ⟨h1, h2⟩ := hk
  refine ⟨?_, ?_, by rw [List.length_append]; simp; omega⟩
  · intro t ht
    rcases List.mem_append.1 ht with ht | ht
    · exact ho.ok t ht
    · rw [List.mem_singleton] at ht
      subst ht
      refine ⟨fun e => ?_, h32⟩
      have : t.toList = [] := by rw [Lib.toList_data]; exact List.length_eq_zero_iff.1 (by rw [← size_list]; exact e)
      rw [this] at h1
      cases h1
  · rw [List.map_append, List.map_cons, List.map_nil, List.nodup_append]
    refine ⟨ho.nodup, by simp, ?_⟩
    intro a ha b hb e
    rw [List.mem_singleton] at hb
    subst hb
    obtain ⟨t, ht, rfl⟩ := List.mem_map.1 ha
    have := List.any_eq_false.1 h2 t ht
    rw [Lib.toList_data, Lib.toList_data] at this
    exact this (beq_iff_eq.2 e)
theorem l0_ends (order : List Int) (hw : ∀ x ∈ order, ∃ b : UInt8, x = (b.toNat : Int)) (hol : order.length ≤ 1048576) (names : List ByteArray) (hnl : names.length ≤ 1048576) : ∀ (m j : Nat) (own : List ByteArray), j + m = names.length → Own own →
    ∃ K, ∀ k, K ≤ k → runnellaw19_CheckLabels.l0 k order own names (names.length : Int) (j : Int) = some true := by
  intro m
  induction m with
  | zero =>
    intro j own hjm ho
    by_cases h0 : own = []
    · refine ⟨1, fun k hk => ?_⟩
      obtain ⟨k, rfl⟩ : ∃ q, k = q + 1 := ⟨k - 1, by omega⟩
      rw [runnellaw19_CheckLabels.l0, if_neg (by omega), if_pos (by rw [h0]; rfl)]
    · obtain ⟨K, hK⟩ := l2_ends ho h0 order hw hol order.length 0 [] (by omega) (fun c hc => by cases hc) rfl (fun c hc => by cases hc)
      refine ⟨K + 1, fun k hk => ?_⟩
      obtain ⟨k, rfl⟩ : ∃ q, k = q + 1 := ⟨k - 1, by omega⟩
      have hpos : 0 < own.length := List.length_pos_iff.2 h0
      rw [runnellaw19_CheckLabels.l0, if_neg (by omega), if_neg (by omega)]
      exact hK k (by omega)
  | succ m ih =>
    intro j own hjm ho
    have hjl : j < names.length := by omega
    obtain ⟨n, hn⟩ : ∃ n, min (names[j]).size 32 = n := ⟨_, rfl⟩
    have hmn : mn ((names[j]).size : Int) 32 = (n : Int) := by rw [show (32 : Int) = ((32 : Nat) : Int) from rfl, mn_min, hn]
    obtain ⟨s, hs⟩ : ∃ s, (names[j]).extract 0 n = s := ⟨_, rfl⟩
    have hsz : s.size ≤ 32 := by rw [← hs, ByteArray.size_extract]; omega
    have hw1 : wrap64 ((j : Int) + 1) = ((j + 1 : Nat) : Int) := F.wrap_one (by omega)
    have hA := ih (j + 1) own (by omega) ho
    obtain ⟨K, hK⟩ := l1_ends order own ho.few s names (names.length : Int) (j : Int) (by rw [hw1]; exact hA) own.length 0 (s.toList == ([] : List UInt8)) (by omega) (fun hk h10 => by rw [hw1]; exact ih (j + 1) (own ++ [s]) (by omega) (own_more ho s hsz (by simpa using hk) h10))
    refine ⟨K + 1, fun k hk => ?_⟩
    obtain ⟨k, rfl⟩ : ∃ q, k = q + 1 := ⟨k - 1, by omega⟩
    clear hw1
    rw [runnellaw19_CheckLabels.l0, if_pos (by omega), if_pos (by omega), if_pos (by omega), rdOf_get names j hjl, hmn, if_pos (by omega), if_pos (by omega), show (n : Int).toNat = n from rfl, hs]
    exact hK k (by omega)
theorem awake19b : runnellaw19_awake.f = some true := by kernel_rfl

theorem CheckLabels (A0 : Option Addr) (c0 : Nat) (l0 : List ByteArray) (A1 : Option Addr) (c1 : Nat) (l1 : List Int) (w : World) (hr0 : Kd.C Kd.string w A0 l0.length l0) (hc0 : l0.length ≤ c0) (g0 : l0.length ≤ 1048576) (hr1 : Kd.C (Kd.int .u8) w A1 l1.length l1) (hc1 : l1.length ≤ c1) (g1 : l1.length ≤ 1048576) (x1 : ∀ x ∈ l1, (Lit.int .u8 x).wf = true) :
    Calls Try.prog 5 #[.slice A0 l0.length c0, .slice A1 l1.length c1] w fun e w' => e = .returned (.bool true) ∧ Below w.heap.size w w' := by
  have hw : ∀ x ∈ l1, ∃ b : UInt8, x = (b.toNat : Int) := fun x hx => u8_of_wf (x1 x hx)
  obtain ⟨K, hK⟩ := l0_ends l1 hw g1 l0 g0 l0.length 0 [] (by omega) own_nil
  have hk : runnellaw19_CheckLabels.f K l0 l1 = some true := by
    unfold runnellaw19_CheckLabels.f
    rw [awake19b, Option.bind_some, if_pos rfl]
    exact hK K (Nat.le_refl _)
  exact runnellaw19_CheckLabels.calls K A0 c0 l0 A1 c1 l1 true w hr0 hc0 hr1 hc1 hk
end Go.Proofs.Ytdlbmajilmmapaa.Pure
