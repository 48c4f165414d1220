/- Layer 19 (check): Check answers what the reference's DocCheck answers. -/
import Derived.Test.YtdlbmajilmmapaaF18
import Derived.Test.YtdlbmajilmmapaaF19
namespace Go.Proofs.Ytdlbmajilmmapaa.Pure
open Go.RowKit Go.Proofs.Ytdlbmajilmmapaa.F Go.Proofs.YtdlbmajilmmapaaW.PrintWords Go.Proofs.YtdlbmajilmmapaaW.PrintLast

/-! ## the addresses -/
def rep (z1 z2 nt : Bool) (x : Int) : S27 := ⟨0, ⟨if z1 then 0 else 1, 0, ⟨#[]⟩⟩, ⟨if z2 then 0 else 1, 0, ⟨#[]⟩⟩, nt, x, ⟨#[]⟩, ⟨#[]⟩, ⟨#[]⟩, ⟨#[]⟩, [], 0, false, false, ⟨#[]⟩, ⟨#[]⟩⟩
set_option maxRecDepth 100000 in
theorem ad_table : ([true, false].all fun z1 => [true, false].all fun z2 => [true, false].all fun nt => (List.range 256).all fun x => (adF (rep z1 z2 nt (x : Int))).isSome && adF (rep z1 z2 nt (x : Int)) == adRF (rep z1 z2 nt (x : Int))) = true := by kernel_rfl
theorem adF_rep (c : S27) : adF c = adF (rep (decide (c.f1.f0 = 0)) (decide (c.f2.f0 = 0)) c.f3 c.f4) := by
  by_cases z1 : c.f1.f0 = 0 <;> by_cases z2 : c.f2.f0 = 0 <;> simp [adF, rep, check_addresses.f, check_addresses.j0, check_addresses.j1, check_addresses.j2, z1, z2]
theorem adRF_rep (c : S27) : adRF c = adRF (rep (decide (c.f1.f0 = 0)) (decide (c.f2.f0 = 0)) c.f3 c.f4) := by
  by_cases z1 : c.f1.f0 = 0 <;> by_cases z2 : c.f2.f0 = 0 <;> simp [adRF, rep, runnelref19_addresses.f, z1, z2]
theorem ad_eq (c : S27) (b : UInt8) (hb : c.f4 = (b.toNat : Int)) : ∃ e, adF c = some e ∧ adRF c = some e := by
  rw [adF_rep, adRF_rep, hb]
  have h := List.all_eq_true.1 ad_table (decide (c.f1.f0 = 0)) (by cases decide (c.f1.f0 = 0) <;> simp)
  have h := List.all_eq_true.1 h (decide (c.f2.f0 = 0)) (by cases decide (c.f2.f0 = 0) <;> simp)
  have h := List.all_eq_true.1 h c.f3 (by cases c.f3 <;> simp)
  have h := List.all_eq_true.1 h b.toNat (List.mem_range.2 b.toNat_lt)
  rw [Bool.and_eq_true] at h
  obtain ⟨e, he⟩ := Option.isSome_iff_exists.1 h.1
  have h2 := beq_iff_eq.1 h.2
  exact ⟨e, he, by rw [← h2]; exact he⟩

/-! ## the labels -/
def labs (l : List S27) : List (List UInt8) := (l.filter (fun c => c.f4 == 58)).map (fun c => c.f5.data.toList)
theorem labs_snoc (l : List S27) (c : S27) : labs (l ++ [c]) = if c.f4 = 58 then labs l ++ [c.f5.data.toList] else labs l := by
  unfold labs
  by_cases h : c.f4 = 58 <;> simp [h]
theorem labs_cons (l : List S27) (c : S27) : labs (c :: l) = if c.f4 = 58 then c.f5.data.toList :: labs l else labs l := by
  unfold labs
  by_cases h : c.f4 = 58 <;> simp [h]
theorem rd_get (l : List S27) (i : Nat) (h : i < l.length) : rd_T27 l (i : Int) = l[i] := by
  unfold rd_T27
  rw [show (i : Int).toNat = i from rfl, List.getD_eq_getElem?_getD, List.getElem?_eq_getElem h]
  rfl
theorem label_is (l0 : List S27) (hlen : l0.length ≤ 9007199254740992) (s : ByteArray) (n : Nat) (hn : n ≤ l0.length) : ∀ (m j K : Nat), j + m = n → m + 1 ≤ K → ∃ x, runnelref19_Label.l0 K l0 (n : Int) s (j : Int) = some x ∧ (0 ≤ x ↔ s.data.toList ∈ labs ((l0.take n).drop j)) := by
  intro m
  induction m with
  | zero =>
    intro j K hj hK
    obtain ⟨K, rfl⟩ : ∃ q, K = q + 1 := ⟨K - 1, by omega⟩
    rw [runnelref19_Label.l0, if_neg (by omega)]
    refine ⟨-1, rfl, ?_⟩
    rw [List.drop_eq_nil_of_le (by rw [List.length_take]; omega)]
    simp [labs]
  | succ m ih =>
    intro j K hj hK
    obtain ⟨K, rfl⟩ : ∃ q, K = q + 1 := ⟨K - 1, by omega⟩
    have hjl : j < l0.length := by omega
    have hd : (l0.take n).drop j = l0[j] :: (l0.take n).drop (j + 1) := by
      rw [List.drop_eq_getElem_cons (by rw [List.length_take]; omega)]
      simp
    rw [runnelref19_Label.l0, if_pos (by omega), if_pos (by omega), if_pos (by omega), rd_get l0 j hjl, F.wrap_one (by omega), hd, labs_cons]
    by_cases h1 : (l0[j]).f4 = 58
    · rw [if_pos h1, if_pos h1]
      by_cases h2 : (l0[j]).f5.toList = s.toList
      · rw [if_pos h2]
        rw [Lib.toList_data, Lib.toList_data] at h2
        exact ⟨_, rfl, by rw [h2]; simp⟩
      · rw [if_neg h2]
        rw [Lib.toList_data, Lib.toList_data] at h2
        obtain ⟨x, hx, hi⟩ := ih (j + 1) K (by omega) (by omega)
        exact ⟨x, hx, by rw [hi, List.mem_cons]; exact ⟨.inr, fun h => h.resolve_left (fun e => h2 e.symm)⟩⟩
    · rw [if_neg h1, if_neg h1]
      exact ih (j + 1) K (by omega) (by omega)
theorem label_f (l0 : List S27) (hlen : l0.length ≤ 9007199254740992) (s : ByteArray) (n : Nat) (hn : n ≤ l0.length) : ∃ x, runnelref19_Label.f (l0.length + 5) l0 (n : Int) s = some x ∧ (0 ≤ x ↔ s.data.toList ∈ labs (l0.take n)) := by
  obtain ⟨x, hx, hi⟩ := label_is l0 hlen s n hn n 0 (l0.length + 5) (by omega) (by omega)
  exact ⟨x, hx, by rw [hi, List.drop_zero]⟩

/-! ## the walk over the list -/
def atOf (l0 : List S27) (j : Int) : Int := (rd_T27 l0 j).f0
def Opens (l0 : List S27) (i : Nat) (ix : List Int) : Prop := ∀ K, runnelref19_Open.l0 (K + i) l0 (l0.length : Int) [] 0 = runnelref19_Open.l0 K l0 (l0.length : Int) ix (i : Int)
theorem opens_step {l0 : List S27} {i : Nat} {ix ix' : List Int} (h : Opens l0 i ix) (hs : ∀ K, runnelref19_Open.l0 (K + 1) l0 (l0.length : Int) ix (i : Int) = runnelref19_Open.l0 K l0 (l0.length : Int) ix' ((i + 1 : Nat) : Int)) : Opens l0 (i + 1) ix' := by
  intro K
  rw [show K + (i + 1) = K + 1 + i from by omega, h, hs]
def Ends (l0 : List S27) (r : Int × Int × List (List UInt8) × List Int) (R : Int × Int × Int) : Prop :=
  (r.1 ≠ 0 ∧ R.1 = r.1 ∧ R.2.1 = r.2.1) ∨ (r.1 = 0 ∧ R.1 = 0 ∧ r.2.2.1 = labs l0 ∧ ∃ ix : List Int, r.2.2.2 = ix.map (atOf l0) ∧ R.2.2 = (ix.length : Int) ∧ (∀ j ∈ ix, 0 ≤ j ∧ j < (l0.length : Int)) ∧ ix.length ≤ 16 ∧ Opens l0 l0.length ix)

theorem walk_same (l0 : List S27) (hlen : l0.length ≤ 9007199254740992) (hw : ∀ c ∈ l0, ∃ b : UInt8, c.f4 = (b.toNat : Int)) : ∀ (m i : Nat) (ix : List Int), i + m = l0.length → ix.length ≤ 16 → (∀ j ∈ ix, 0 ≤ j ∧ j < (l0.length : Int)) → Opens l0 i ix →
    ∃ r R, checkS (l0.drop i) (labs (l0.take i)) (ix.map (atOf l0)) = some r ∧ docS l0 (l0.drop i) (i : Int) (ix.length : Int) = some R ∧ Ends l0 r R := by
  intro m
  induction m with
  | zero =>
    intro i ix hi hix hv hO
    obtain rfl : i = l0.length := by omega
    rw [List.drop_length, checkS, docS, List.take_length]
    exact ⟨_, _, rfl, rfl, .inr ⟨rfl, rfl, rfl, ix, rfl, rfl, hv, hix, hO⟩⟩
  | succ m ih =>
    intro i ix hi hix hv hO
    have hil : i < l0.length := by omega
    obtain ⟨b, hb⟩ := hw _ (List.getElem_mem hil)
    obtain ⟨e, he1, he2⟩ := ad_eq l0[i] b hb
    have hrd := rd_get l0 i hil
    rw [List.drop_eq_getElem_cons hil, checkS, docS, he2]
    unfold meetF
    rw [he1, Option.map_some, Option.bind_some, Option.bind_some]
    have hml : (ix.map (atOf l0)).length = ix.length := by simp
    have htake : l0.take (i + 1) = l0.take i ++ [l0[i]] := by rw [List.take_append_getElem]
    have hIH := ih (i + 1)
    have hc1 : ((i + 1 : Nat) : Int) = (i : Int) + 1 := by omega
    have hfault : ∀ v : Int, v ≠ 0 → ∀ d : Int, meetE e (l0[i]).f0 (l0[i]).f4 (l0[i]).f5 (labs (l0.take i)) (ix.map (atOf l0)) = (v, labs (l0.take i), ix.map (atOf l0)) →
        ∃ r R, (if (meetE e (l0[i]).f0 (l0[i]).f4 (l0[i]).f5 (labs (l0.take i)) (ix.map (atOf l0))).1 = 0 then checkS (l0.drop (i + 1)) (meetE e (l0[i]).f0 (l0[i]).f4 (l0[i]).f5 (labs (l0.take i)) (ix.map (atOf l0))).2.1 (meetE e (l0[i]).f0 (l0[i]).f4 (l0[i]).f5 (labs (l0.take i)) (ix.map (atOf l0))).2.2 else some ((meetE e (l0[i]).f0 (l0[i]).f4 (l0[i]).f5 (labs (l0.take i)) (ix.map (atOf l0))).1, (l0[i]).f0, labs (l0.take i), ix.map (atOf l0))) = some r ∧
          some (v, (l0[i]).f0, d) = some R ∧ Ends l0 r R := by
      intro v hv0 d hM
      rw [hM]
      exact ⟨(v, (l0[i]).f0, labs (l0.take i), ix.map (atOf l0)), (v, (l0[i]).f0, d), if_neg hv0, rfl, .inl ⟨hv0, rfl, rfl⟩⟩
    have hgo : ∀ (ls' : List (List UInt8)) (ix' : List Int), meetE e (l0[i]).f0 (l0[i]).f4 (l0[i]).f5 (labs (l0.take i)) (ix.map (atOf l0)) = (0, ls', ix'.map (atOf l0)) → labs (l0.take (i + 1)) = ls' → ix'.length ≤ 16 → (∀ j ∈ ix', 0 ≤ j ∧ j < (l0.length : Int)) → Opens l0 (i + 1) ix' →
        ∃ r R, (if (meetE e (l0[i]).f0 (l0[i]).f4 (l0[i]).f5 (labs (l0.take i)) (ix.map (atOf l0))).1 = 0 then checkS (l0.drop (i + 1)) (meetE e (l0[i]).f0 (l0[i]).f4 (l0[i]).f5 (labs (l0.take i)) (ix.map (atOf l0))).2.1 (meetE e (l0[i]).f0 (l0[i]).f4 (l0[i]).f5 (labs (l0.take i)) (ix.map (atOf l0))).2.2 else some ((meetE e (l0[i]).f0 (l0[i]).f4 (l0[i]).f5 (labs (l0.take i)) (ix.map (atOf l0))).1, (l0[i]).f0, labs (l0.take i), ix.map (atOf l0))) = some r ∧
          docS l0 (l0.drop (i + 1)) ((i : Int) + 1) (ix'.length : Int) = some R ∧ Ends l0 r R := by
      intro ls' ix' hM hl hx hv' hO'
      rw [hM]
      obtain ⟨r, R, h1, h2, h3⟩ := hIH ix' (by omega) hx hv' hO'
      rw [hl] at h1
      rw [hc1] at h2
      exact ⟨r, R, by rw [if_pos rfl]; exact h1, h2, h3⟩
    by_cases c1 : e = 0
    rotate_left
    · rw [if_neg c1]
      exact hfault e c1 _ (by unfold meetE; rw [if_neg c1])
    rw [if_pos c1]
    have hstep : ∀ K, runnelref19_Open.l0 (K + 1) l0 (l0.length : Int) ix (i : Int) = _ := fun K => by
      rw [runnelref19_Open.l0, if_pos (by omega), if_pos (by omega), if_pos (by omega), hrd, F.wrap_one (by omega)]
    by_cases c2 : (l0[i]).f4 = 123
    · rw [if_pos c2]
      by_cases c3 : ix.length = 16
      · rw [if_pos (show (16 : Int) < (ix.length : Int) + 1 by omega)]
        exact hfault 13 (by decide) _ (by unfold meetE; rw [if_pos c1, if_pos c2, if_pos (by rw [hml]; exact c3)])
      · rw [if_neg (show ¬ (16 : Int) < (ix.length : Int) + 1 by omega), show (ix.length : Int) + 1 = ((ix ++ [(i : Int)]).length : Int) from by rw [List.length_append]; simp]
        have hat : atOf l0 (i : Int) = (l0[i]).f0 := by unfold atOf; rw [hrd]
        refine hgo (labs (l0.take i)) (ix ++ [(i : Int)]) (by unfold meetE; rw [if_pos c1, if_pos c2, if_neg (by rw [hml]; exact c3), List.map_append, List.map_cons, List.map_nil, hat]) (by rw [htake, labs_snoc, if_neg (by omega)]) (by rw [List.length_append]; simp; omega) ?_ ?_
        · intro j hj
          rcases List.mem_append.1 hj with hj | hj
          · exact hv j hj
          · rw [List.mem_singleton] at hj; omega
        · exact opens_step hO (fun K => by rw [hstep K, if_pos c2, if_pos (by omega), Option.bind_some, if_neg (by omega)])
    rw [if_neg c2]
    by_cases c4 : (l0[i]).f4 = 125
    · rw [if_pos c4]
      by_cases c3 : ix.length = 0
      · rw [if_pos (show (ix.length : Int) - 1 < 0 by omega)]
        exact hfault 23 (by decide) _ (by unfold meetE; rw [if_pos c1, if_neg c2, if_pos c4, if_pos (by rw [hml]; exact c3)])
      · have hl1 : (ix.take (ix.length - 1)).length = ix.length - 1 := by rw [List.length_take]; omega
        rw [if_neg (show ¬ (ix.length : Int) - 1 < 0 by omega), show (ix.length : Int) - 1 = ((ix.take (ix.length - 1)).length : Int) from by rw [hl1]; omega]
        refine hgo (labs (l0.take i)) (ix.take (ix.length - 1)) (by unfold meetE; rw [if_pos c1, if_neg c2, if_pos c4, if_neg (by rw [hml]; exact c3), hml, List.map_take]) (by rw [htake, labs_snoc, if_neg (by omega)]) (by rw [hl1]; omega) (fun j hj => hv j (List.mem_of_mem_take hj)) ?_
        exact opens_step hO (fun K => by
          rw [hstep K, if_neg c2, if_pos c4, if_pos (by omega), wrap_id (by omega) (by omega), if_pos (by omega), if_pos (by omega), show ((ix.length : Int) - 1).toNat = ix.length - 1 from by omega])
    rw [if_neg c4]
    have hO2 : Opens l0 (i + 1) ix := opens_step hO (fun K => by rw [hstep K, if_neg c2, if_neg c4])
    by_cases c5 : (l0[i]).f4 = 58
    · rw [if_pos c5]
      obtain ⟨x, hx, hxi⟩ := label_f l0 hlen (l0[i]).f5 i (by omega)
      by_cases d1 : (l0[i]).f5.size = 0
      · rw [if_pos d1]
        exact hfault 22 (by decide) _ (by unfold meetE; rw [if_pos c1, if_neg c2, if_neg c4, if_pos c5, if_pos (.inl d1)])
      rw [if_neg d1]
      by_cases d2 : 32 < (l0[i]).f5.size
      · rw [if_pos d2]
        exact hfault 22 (by decide) _ (by unfold meetE; rw [if_pos c1, if_neg c2, if_neg c4, if_pos c5, if_pos (.inr (.inl d2))])
      rw [if_neg d2, hx, Option.bind_some]
      by_cases d3 : 0 ≤ x
      · rw [if_pos d3]
        exact hfault 22 (by decide) _ (by unfold meetE; rw [if_pos c1, if_neg c2, if_neg c4, if_pos c5, if_pos (.inr (.inr (hxi.1 d3)))])
      · rw [if_neg d3]
        exact hgo (labs (l0.take i) ++ [(l0[i]).f5.data.toList]) ix (by unfold meetE; rw [if_pos c1, if_neg c2, if_neg c4, if_pos c5, if_neg (fun h => h.elim d1 (fun h => h.elim d2 (fun h => d3 (hxi.2 h))))]) (by rw [htake, labs_snoc, if_pos c5]) hix hv hO2
    · rw [if_neg c5]
      exact hgo (labs (l0.take i)) ix (by unfold meetE; rw [if_pos c1, if_neg c2, if_neg c4, if_neg c5]) (by rw [htake, labs_snoc, if_neg c5]) hix hv hO2

theorem in_table : ((List.range 256).all fun x => runnelref19_in.f 30 (x : Int) (⟨#[98, 116]⟩ : ByteArray) == some (decide ((x : Int) = 98 ∨ (x : Int) = 116))) = true := by kernel_rfl
theorem docJ_is (l0 : List S27) (hlen : l0.length ≤ 9007199254740992) : ∀ (l : List S27), (∀ c ∈ l, ∃ b : UInt8, c.f4 = (b.toNat : Int)) → docJ l0 l = some (checkJ (labs l0) l)
  | [], _ => rfl
  | c :: l, hw => by
    obtain ⟨b, hb⟩ := hw c List.mem_cons_self
    have hin : runnelref19_in.f 30 c.f4 (⟨#[98, 116]⟩ : ByteArray) = some (decide (c.f4 = 98 ∨ c.f4 = 116)) := by
      rw [hb]
      exact beq_iff_eq.1 (List.all_eq_true.1 in_table b.toNat (List.mem_range.2 b.toNat_lt))
    have ih := docJ_is l0 hlen l (fun c hc => hw c (List.mem_cons_of_mem _ hc))
    obtain ⟨x, hx, hxi⟩ := label_f l0 hlen c.f5 l0.length (Nat.le_refl _)
    rw [List.take_length] at hxi
    rw [docJ, checkJ, hin, Option.bind_some]
    by_cases h1 : c.f4 = 98 ∨ c.f4 = 116
    · rw [if_pos (decide_eq_true h1)]
      by_cases h2 : c.f5.size = 0
      · rw [if_pos h2, if_neg (fun h => h.2.1 h2)]
        exact ih
      · rw [if_neg h2, hx, Option.bind_some]
        by_cases h3 : x < 0
        · rw [if_pos h3, if_pos ⟨h1, h2, fun h => by have := hxi.2 h; omega⟩]
        · rw [if_neg h3, if_neg (fun h => h.2.2 (hxi.1 (by omega)))]
          exact ih
    · rw [if_neg (by rw [decide_eq_false h1]; decide), if_neg (fun h => h1 h.1)]
      exact ih

theorem check_doc (l0 : List S27) (hlen : l0.length ≤ 9007199254740992) (hw : ∀ c ∈ l0, ∃ b : UInt8, c.f4 = (b.toNat : Int)) (hfit : fitC l0 = true) : ∃ p, check_Check.f l0 = some p ∧ runnelref19_DocCheck.f l0 = some p := by
  obtain ⟨r, R, h1, h2, h3⟩ := walk_same l0 hlen hw l0.length 0 [] (by omega) (by simp) (by simp) (fun K => rfl)
  have h1' : checkS l0 [] [] = some r := h1
  have h2' : docS l0 l0 0 0 = some R := h2
  unfold check_Check.f runnelref19_DocCheck.f
  rw [if_pos hfit, h1', h2', Option.map_some, Option.bind_some]
  refine ⟨_, rfl, ?_⟩
  unfold checkE docE
  rcases h3 with ⟨a, b, c⟩ | ⟨a, b, c, ix, d, e, hv, hix, hO⟩
  · rw [if_neg a, if_neg (by rw [b]; exact a), b, c]
  · rw [if_pos a, if_pos b, c, d, e, List.length_map]
    by_cases h0 : ix.length = 0
    · rw [if_pos h0, if_neg (by omega), docJ_is l0 hlen l0 hw]
    · rw [if_neg h0, if_pos (by omega)]
      have ho : runnelref19_Open.f (l0.length + 5) l0 (l0.length : Int) = some ix := by
        unfold runnelref19_Open.f
        rw [show l0.length + 5 = 5 + l0.length from by omega, hO 5, runnelref19_Open.l0, if_neg (by omega)]
      have hm : ((ix.length : Int) - 1).toNat = ix.length - 1 := by omega
      have hlt : ix.length - 1 < ix.length := by omega
      have hr1 : rd ix ((ix.length : Int) - 1) = ix[ix.length - 1] := by
        unfold rd
        rw [hm, List.getD_eq_getElem?_getD, List.getElem?_eq_getElem hlt]
        rfl
      have hr2 : rd (ix.map (atOf l0)) ((ix.length : Int) - 1) = atOf l0 ix[ix.length - 1] := by
        unfold rd
        rw [hm, List.getD_eq_getElem?_getD, List.getElem?_eq_getElem (by rw [List.length_map]; exact hlt), List.getElem_map]
        rfl
      have hvv := hv _ (List.getElem_mem hlt)
      rw [ho, Option.bind_some, if_neg h0, hr1, hr2, if_pos ⟨hvv.1, hvv.2, by omega⟩]
      rfl
end Go.Proofs.Ytdlbmajilmmapaa.Pure
