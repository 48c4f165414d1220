/- Of layer 13 (template): a text without the bytes & \ and newline is one part and makes itself of everything; & makes the match. No condition. -/
import Derived.Test.YtdlbmajilmmapaaF9
import Derived.Test.YtdlbmajilmmapaaPureTemplate
import Derived.Test.YtdlbmajilmmapaaPureDocBuild
import Derived.Test.YtdlbmajilmmapaaTTemplatePlain
namespace Go.Proofs.Ytdlbmajilmmapaa.Pure
open Go.RowKit Go.Proofs.Ytdlbmajilmmapaa.F Go.Proofs.YtdlbmajilmmapaaW.PrintWords Go.Proofs.YtdlbmajilmmapaaW.PrintLast

def plainB (b : UInt8) : Prop := b ≠ 38 ∧ b ≠ 10 ∧ b ≠ 92
theorem laid_one (s x : ByteArray) : laidText [(⟨-1, s⟩ : S117)] x = [⟨-1, s ++ x⟩] := by
  unfold laidText
  rw [if_neg (by simp)]
  exact if_pos (show (-1 : Int) < 0 by decide)
theorem ba_ext {a b : ByteArray} (h : a.data.toList = b.data.toList) : a = b := by
  cases a; cases b
  congr 1
  exact Array.toList_inj.1 h
theorem plain_more : ∀ (bs : List UInt8) (i : Nat) (s : ByteArray), (∀ b ∈ bs, plainB b) → parseT i [(⟨-1, s⟩ : S117)] bs = ([⟨-1, ⟨(s.data.toList ++ bs).toArray⟩⟩], 0, 0)
  | [], i, s, _ => by rw [parseT, List.append_nil, mk_data]
  | b :: bs, i, s, h => by
    obtain ⟨h1, h2, h3⟩ := h b List.mem_cons_self
    rw [parseT_text i _ b bs h1 h2 h3, laid_one, plain_more bs (i + 1) _ (fun c hc => h c (List.mem_cons_of_mem _ hc)), append_data, List.append_assoc]
    rfl
theorem plain_parse (t : ByteArray) (ht : t.size ≤ 500) (h : ∀ b ∈ t.data.toList, plainB b) : template_Parse.f t = some ((if t.size = 0 then [] else [⟨-1, t⟩]), 0, 0) := by
  unfold template_Parse.f
  rw [if_neg (by omega)]
  congr 1
  by_cases h0 : t.size = 0
  · rw [if_pos h0]
    have e : t.data.toList = [] := List.length_eq_zero_iff.1 (by rw [← size_list]; exact h0)
    rw [e, parseT]
  · rw [if_neg h0]
    cases e : t.data.toList with
    | nil => exact absurd (by rw [size_list, e]; rfl) h0
    | cons b bs =>
      rw [e] at h
      obtain ⟨h1, h2, h3⟩ := h b List.mem_cons_self
      rw [parseT_text 0 _ b bs h1 h2 h3, show laidText [] (byteStr b) = [(⟨-1, byteStr b⟩ : S117)] from rfl, plain_more bs _ _ (fun c hc => h c (List.mem_cons_of_mem _ hc))]
      have : (⟨((byteStr b).data.toList ++ bs).toArray⟩ : ByteArray) = t := ba_ext (by show b :: bs = _; rw [e])
      rw [this]
theorem mn_nat (a b : Nat) : mn (a : Int) (b : Int) = ((min a b : Nat) : Int) := by unfold mn; (repeat' split) <;> omega
theorem plain_build (t x1 : ByteArray) (x2 : List S55) (ht : t.size ≤ 500) (h1 : x1.size ≤ reachBytes) : template_Build.f (if t.size = 0 then [] else [⟨-1, t⟩]) x1 x2 = some (t, 0) := by
  have hr := reachBytes_lt
  unfold template_Build.f
  by_cases h0 : t.size = 0
  · rw [if_pos h0, if_pos (fit_of (by simp) h1), buildT]
    congr 1
    have e : t.data.toList = [] := List.length_eq_zero_iff.1 (by rw [← size_list]; exact h0)
    rw [show (⟨[].toArray⟩ : ByteArray) = t from ba_ext e.symm]
  · have hf : fitT [(⟨-1, t⟩ : S117)] x1 = true := by
      unfold fitT
      rw [Bool.and_eq_true, List.all_eq_true]
      refine ⟨fun p hp => ?_, decide_eq_true (by omega)⟩
      rw [List.mem_singleton] at hp
      subst hp
      exact decide_eq_true (by show t.size ≤ _; omega)
    rw [if_neg h0, if_pos hf, buildT, if_neg (show ¬ (-1 : Int) < -1 by decide), if_neg (show ¬ (-1 : Int) ≥ 0 by decide), Option.bind_some, if_neg (by simp; omega), buildT, List.nil_append, mk_data]

theorem plain_tail (x1 : ByteArray) (h1 : x1.size ≤ reachBytes) (k : Nat) : runnellaw13_TemplatePlain.j1 (k + 1) x1 false = some true := by
  have hr := reachBytes_lt
  have hp : template_Parse.f (⟨#[60, 38, 62]⟩ : ByteArray) = some ([(⟨-1, ⟨#[60]⟩⟩ : S117), ⟨0, ⟨#[]⟩⟩, ⟨-1, ⟨#[62]⟩⟩], 0, 0) := by kernel_rfl
  obtain ⟨n, hn⟩ : ∃ n, min x1.size 300 = n := ⟨_, rfl⟩
  have hn1 : n ≤ x1.size := by omega
  have hn2 : n ≤ 300 := by omega
  have hm : mn (x1.size : Int) 300 = (n : Int) := by rw [show (300 : Int) = ((300 : Nat) : Int) from rfl, mn_nat, hn]
  have hsz : (x1.extract 0 n).size = n := by rw [ByteArray.size_extract]; omega
  have hpc : template_piece.f x1 [(⟨0, (n : Int)⟩ : S55)] 0 = some (x1.extract 0 n) := by
    have hrd : rd_T55 [(⟨0, (n : Int)⟩ : S55)] 0 = ⟨0, (n : Int)⟩ := rfl
    unfold template_piece.f
    rw [show (([(⟨0, (n : Int)⟩ : S55)].length : Nat) : Int) = 1 from rfl, if_neg (by decide), if_pos (by decide), if_pos (by decide), hrd]
    show (if (0 : Int) < 0 then _ else if (0 : Int) > (n : Int) then _ else if (n : Int) > (x1.size : Int) then _ else if (0 : Int) ≤ 0 then if (0 : Int) ≤ (n : Int) then if (n : Int) ≤ (x1.size : Int) then some (x1.extract (0 : Int).toNat (n : Int).toNat) else none else none else none) = _
    rw [if_neg (by decide), if_neg (by omega), if_neg (by omega), if_pos (by decide), if_pos (by omega), if_pos (by omega)]
    rfl
  have hb : template_Build.f [(⟨-1, ⟨#[60]⟩⟩ : S117), ⟨0, ⟨#[]⟩⟩, ⟨-1, ⟨#[62]⟩⟩] x1 [(⟨0, (n : Int)⟩ : S55)] = some (⟨([60] ++ (x1.extract 0 n).data.toList ++ [62]).toArray⟩, 0) := by
    have hf : fitT [(⟨-1, ⟨#[60]⟩⟩ : S117), ⟨0, ⟨#[]⟩⟩, ⟨-1, ⟨#[62]⟩⟩] x1 = true := by
      unfold fitT
      rw [Bool.and_eq_true, decide_eq_true (show x1.size ≤ 1152921504606846976 by omega)]
      exact ⟨by decide, rfl⟩
    have hl : (x1.extract 0 n).data.toList.length = n := by rw [← size_list]; exact hsz
    unfold template_Build.f
    rw [if_pos hf, buildT, if_neg (by decide), if_neg (by decide), Option.bind_some, if_neg (by decide), buildT, if_neg (by decide), if_pos (by decide), hpc, Option.bind_some, if_neg (by rw [hsz]; show ¬ 1024 < 1 + n; omega), buildT, if_neg (by decide), if_neg (by decide), Option.bind_some,
      if_neg (by rw [List.length_append, hl]; show ¬ 1024 < 1 + n + 1; omega), buildT]
    rfl
  rw [runnellaw13_TemplatePlain.j1, if_neg (by decide), hp, Option.bind_some, hm, hb, Option.bind_some, if_pos rfl, if_pos rfl, if_pos (by omega), if_pos (by omega), show (n : Int).toNat = n from rfl, if_pos (by rw [hsz]; omega), if_pos (by rw [append_size, hsz]; show 1 + n + 1 ≤ _; omega)]
  congr 1
  rw [beq_iff_eq, toList_mk, Lib.toList_data, append_data, append_data]

theorem plain_loop (t x1 : ByteArray) (x2 : List S55) (ht : t.size ≤ 500) (h1 : x1.size ≤ reachBytes) : ∀ (n i : Nat), i + n = t.size → (∀ b ∈ t.data.toList.take i, plainB b) → runnellaw13_TemplatePlain.l0 (n + 2) t x1 x2 (i : Int) = some true := by
  intro n
  induction n with
  | zero =>
    intro i hi hp
    have hi2 : i = t.size := by omega
    rw [List.take_of_length_le (by rw [← size_list]; omega)] at hp
    have hlen : (((if t.size = 0 then [] else [⟨-1, t⟩] : List S117).length : Int) != mn (t.size : Int) 1) = false := by
      rw [show (1 : Int) = ((1 : Nat) : Int) from rfl, mn_nat, bne_eq_false_iff_eq]
      by_cases h0 : t.size = 0
      · rw [if_pos h0, h0]; rfl
      · rw [if_neg h0, show min t.size 1 = 1 from by omega]; rfl
    rw [runnellaw13_TemplatePlain.l0, if_neg (by omega), plain_parse t ht hp, Option.bind_some, plain_build t x1 x2 ht h1, Option.bind_some, if_pos rfl, if_pos rfl, if_pos rfl, hlen]
    exact plain_tail x1 h1 0
  | succ n ih =>
    intro i hi hp
    cases e : t.data.toList.drop i with
    | nil => have := at_nil e (by omega); omega
    | cons b bs =>
      obtain ⟨hlt, hb, hdr⟩ := at_cons e
      rw [show n + 1 + 2 = n + 2 + 1 from rfl, runnellaw13_TemplatePlain.l0, if_pos (by omega), if_pos (by omega), hb]
      by_cases e38 : b = 38
      · rw [if_pos (eq_num (x := 38) 38 rfl e38)]
      rw [if_neg (ne_num (x := 38) 38 rfl e38)]
      by_cases e92 : b = 92
      · rw [if_pos (eq_num (x := 92) 92 rfl e92)]
      rw [if_neg (ne_num (x := 92) 92 rfl e92)]
      by_cases e10 : b = 10
      · rw [if_pos (eq_num (x := 10) 10 rfl e10)]
      rw [if_neg (ne_num (x := 10) 10 rfl e10), F.wrap_one (by omega)]
      refine ih (i + 1) (by omega) ?_
      have hlt2 : i < t.data.toList.length := by rw [← size_list]; exact hlt
      have hget : t.data.toList[i] = b := by
        have := List.drop_eq_getElem_cons hlt2
        rw [e] at this
        injection this with this _
        exact this.symm
      intro c hc
      rw [← List.take_append_getElem hlt2, List.mem_append, List.mem_singleton, hget] at hc
      rcases hc with hc | rfl
      · exact hp c hc
      · exact ⟨e38, e10, e92⟩

set_option linter.unusedVariables false in
theorem TemplatePlain (a0 : ByteArray) (a1 : ByteArray) (A2 : Option Addr) (c2 : Nat) (l2 : List S55) (w : World) (h0 : a0.size ≤ reachBytes) (h1 : a1.size ≤ reachBytes) (hr2 : Kd.C k55 w A2 l2.length l2) (hc2 : l2.length ≤ c2)
    (g2 : l2.length * Try.prog.bytesOf 55 ≤ reachBytes ∧ ∀ a ∈ l2, ((Lit.int .i64 a.f0).wf = true ∧ (Lit.int .i64 a.f1).wf = true)) :
    Calls Try.prog 9 #[.string a0, .string a1, .slice A2 l2.length c2] w fun e w' => e = .returned (.bool true) ∧ Below w.heap.size w w' := by
  have hk : runnellaw13_TemplatePlain.f 600 a0 a1 l2 = some true := by
    obtain ⟨n, hn⟩ : ∃ n, min a0.size 500 = n := ⟨_, rfl⟩
    have hm : mn (a0.size : Int) 500 = (n : Int) := by rw [show (500 : Int) = ((500 : Nat) : Int) from rfl, mn_nat, hn]
    have hsz : (a0.extract 0 n).size = n := by rw [ByteArray.size_extract]; omega
    unfold runnellaw13_TemplatePlain.f
    rw [at_rounds (g := runnellaw13_awake.f) runnellaw13_awake.mono (show 6 ≤ 600 by omega) awake13, Option.bind_some, if_pos rfl, hm, if_pos (by omega), if_pos (by omega), show (n : Int).toNat = n from rfl, show (0 : Int) = ((0 : Nat) : Int) from rfl]
    exact at_rounds (g := fun k => runnellaw13_TemplatePlain.l0 k (a0.extract 0 n) a1 l2 ((0 : Nat) : Int)) (fun k => (runnellaw13_TemplatePlain.mono_l k).1 _ _ _ _) (by omega) (plain_loop (a0.extract 0 n) a1 l2 (by omega) h1 n 0 (by omega) (by simp))
  exact runnellaw13_TemplatePlain.calls 600 a0 a1 A2 c2 l2 true w hr2 hc2 hk

end Go.Proofs.Ytdlbmajilmmapaa.Pure
