/- The printed law OriginLabels tells true for every row of numbers (of the form's own reach). -/
import Derived.Test.YtbfbidifodcedaaDoorB3
import Derived.Test.YtbfbidifodcedaaDoorPr9
namespace Go.Proofs.YtbfbidifodcedaaDoor.Pure
open Go.RowKit Go.Proofs.YtbfbidifodcedaaDoor.Pr Go.Proofs.YtbfbidifodcedaaDoorW.PrintWords Go.Proofs.YtbfbidifodcedaaDoorW.PrintLast
set_option linter.unusedVariables false
set_option linter.unusedSimpArgs false

theorem rd_at (l : List Int) (i : Nat) (h : i < l.length) : rd l (i : Int) = l[i] := by simp [rd, List.getD_eq_getElem?_getD, h]
def okN (n : Nat) : Bool := decide (1 ≤ n ∧ n ≤ 63)
theorem lab_rep (n : Nat) : labB (repS n 97) = okN n := by
  have hz := repS_size n 97
  unfold labB okN
  by_cases h1 : n < 1
  · rw [if_pos (by omega), decide_eq_false (by omega)]
  · rw [if_neg (by omega)]
    by_cases h2 : n > 63
    · rw [if_pos (by omega), decide_eq_false (by omega)]
    · rw [if_neg (by omega), decide_eq_true (by omega)]
      have hb : ∀ j : Nat, j < n → bt (repS n 97) (j : Int) = 97 := by
        intro j hj
        rw [bt_get _ _ (by omega), repS_data]
        simp [List.getD_eq_getElem?_getD, hj]
      have b0 : bt (repS n 97) 0 = 97 := hb 0 (by omega)
      rw [b0, if_neg (by decide), hz, hb (n - 1) (by omega), if_neg (by decide), repS_data]
      rw [List.all_eq_true]
      intro c hc
      rw [List.eq_of_mem_replicate hc]
      decide
theorem not46 (n : Nat) : (46 : UInt8) ∉ List.replicate n (97 : UInt8) := by
  intro h
  have := List.eq_of_mem_replicate h
  cases this
theorem host_parts (s : ByteArray) (ns : List Nat) (hs : splitC 46 s.data.toList = ns.map fun n => List.replicate n 97) : hostB s = (decide ((s.size : Int) ≤ 253) && ns.all okN) := by
  unfold hostB
  rw [hs]
  have : ((ns.map fun n => List.replicate n (97 : UInt8)).map bsOf).all labB = ns.all okN := by
    rw [List.map_map, List.all_map]
    congr 1
    funext n
    exact lab_rep n
  rw [this]
  by_cases h : (s.size : Int) > 253
  · rw [if_pos h, decide_eq_false (by omega), Bool.false_and]
  · rw [if_neg h, decide_eq_true (by omega), Bool.true_and]
theorem OriginLabels_l0 (l : List Int) (h1 : 1 ≤ l.length) (hl : l.length ≤ 12) (hw : ∀ x ∈ l, (Lit.int .i64 x).wf = true) : ∀ n i (s : ByteArray) (ns : List Nat), i + n = l.length → ns.length = i → s.size ≤ 67 * i → (i > 0 → splitC 46 s.data.toList = ns.map fun n => List.replicate n 97) → (i = 0 → s = ⟨#[]⟩) →
    Ev (fun k => lockkeeperlaw3_OriginLabels.l0 k l s (ns.all okN) (i : Int)) true := by
  intro n
  induction n with
  | zero =>
    intro i s ns hi hn hz hsp h0
    have hh := host_parts s ns (hsp (by omega))
    have hc : chkS (⟨#[104, 116, 116, 112]⟩ : ByteArray) s 1 = hostB s := by
      unfold chkS
      rw [if_neg (by unfold defP; rw [if_pos (by rw [tl])]; decide)]
      cases hostB s <;> rfl
    refine evSucc ?_
    simp only [lockkeeperlaw3_OriginLabels.l0]
    refine evNeg (by omega) (Ev.bind (evEq (chk_ev (⟨#[104, 116, 116, 112]⟩ : ByteArray) s 1 (by omega)) (hc.trans hh)) ?_)
    cases ns.all okN with
    | true => exact evPos rfl (evPos (by simp) (Ev.bind awake3_ev (Ev.now _)))
    | false => exact evNeg (by decide) (evPos (by simp) (Ev.bind awake3_ev (Ev.now _)))
  | succ n ih =>
    intro i s ns hi hn hz hsp h0
    have hlt : i < l.length := by omega
    have e2 : wrap64 ((i : Int) + 1) = ((i + 1 : Nat) : Int) := by unfold wrap64; omega
    obtain ⟨r, hr, r0, r9⟩ := low_f l[i] 66 (hw _ (List.getElem_mem hlt)) (by omega) (by omega)
    obtain ⟨m, rfl⟩ := Int.eq_ofNat_of_zero_le r0
    have ht := text_ev m 97 (by omega)
    have hm := repS_size m 97
    have hdot : (s ++ (⟨#[46]⟩ : ByteArray)).size = s.size + 1 := by rw [ByteArray.size_append]; rfl
    have go : ∀ (t : ByteArray) (b : Bool), t = (if i > 0 then s ++ (⟨#[46]⟩ : ByteArray) ++ repS m 97 else s ++ repS m 97) → b = (ns.all okN && okN m) → Ev (fun k => lockkeeperlaw3_OriginLabels.l0 k l t b ((i + 1 : Nat) : Int)) true := by
      intro t b ht hb
      have := ih (i + 1) t (ns ++ [m]) (by omega) (by simp; omega) (by
        rw [ht]
        split
        · rw [ByteArray.size_append, hdot]; omega
        · rw [ByteArray.size_append]; omega) (fun _ => by
        rw [ht, List.map_append]
        by_cases h : i > 0
        · rw [if_pos h, append_list, append_list, repS_data]
          show splitC 46 ((s.data.toList ++ [46]) ++ List.replicate m 97) = _
          rw [List.append_assoc, show [46] ++ List.replicate m (97 : UInt8) = 46 :: List.replicate m 97 from rfl, splitC_append, hsp h, splitC_not 46 _ (not46 m)]
          rfl
        · have hi0 : i = 0 := by omega
          have hns : ns = [] := List.eq_nil_of_length_eq_zero (by omega)
          rw [if_neg h, h0 hi0, hns, append_list, repS_data]
          show splitC 46 (List.replicate m 97) = _
          rw [splitC_not 46 _ (not46 m)]
          rfl) (by omega)
      rw [hb]
      have e : ((ns ++ [m]).all okN) = (ns.all okN && okN m) := by simp
      rw [e] at this
      exact this
    refine evSucc ?_
    simp only [lockkeeperlaw3_OriginLabels.l0, e2]
    rw [rd_at _ _ hlt]
    refine evPos (by omega) (evPos (by omega) (evBind hr ?_))
    have tail : ∀ b : Bool, b = (ns.all okN && okN m) → Ev (fun k => if (i : Int) > 0 then (if s.size + 1 ≤ 9223372036854775807 then ((lockkeeperlaw0_Text.f k (m : Int) 97).bind fun t => (if (s ++ (⟨#[46]⟩ : ByteArray)).size + t.size ≤ 9223372036854775807 then (lockkeeperlaw3_OriginLabels.l0 k l ((s ++ (⟨#[46]⟩ : ByteArray)) ++ t) b ((i + 1 : Nat) : Int)) else (none))) else (none)) else ((lockkeeperlaw0_Text.f k (m : Int) 97).bind fun t => (if s.size + t.size ≤ 9223372036854775807 then (lockkeeperlaw3_OriginLabels.l0 k l (s ++ t) b ((i + 1 : Nat) : Int)) else (none)))) true := by
      intro b hb
      by_cases h : i > 0
      · exact evPos (by omega) (evPos (by omega) (Ev.bind ht (evPos (by omega) (go _ b (by rw [if_pos h]) hb))))
      · exact evNeg (by omega) (Ev.bind ht (evPos (by omega) (go _ b (by rw [if_neg h]) hb)))
    cases ha : ns.all okN with
    | true =>
      rw [ha] at tail
      refine evPos rfl ?_
      by_cases h : (m : Int) ≥ 1
      · refine evPos h (tail (decide ((m : Int) ≤ 63)) ?_)
        unfold okN
        rw [Bool.true_and]
        exact decide_eq_decide.2 (by omega)
      · refine evNeg h (tail false ?_)
        unfold okN
        rw [Bool.true_and]
        symm
        exact decide_eq_false (by omega)
    | false =>
      rw [ha] at tail
      exact evNeg (by decide) (tail false (by simp))
theorem OriginLabels : ∀ (l0 : List (Int)), (l0.length ≤ maxLen ∧ ∀ x_ ∈ l0, (Lit.int .i64 x_).wf = true) → ∃ k, lockkeeperlaw3_OriginLabels.f k l0 = some true := by
  intro l hb
  refine Ev.rounds (g := fun k => lockkeeperlaw3_OriginLabels.f k l) ?_
  have jt : Ev (fun k => lockkeeperlaw3_OriginLabels.j0 k l true) true := by
    refine evSucc ?_
    simp only [lockkeeperlaw3_OriginLabels.j0, if_true]
    exact Ev.bind awake3_ev (Ev.now _)
  unfold lockkeeperlaw3_OriginLabels.f
  by_cases h1 : (l.length : Int) < 1
  · exact evPos h1 jt
  · refine evNeg h1 ?_
    by_cases h2 : (l.length : Int) > 12
    · rw [decide_eq_true h2]; exact jt
    · rw [decide_eq_false h2]
      refine evSucc ?_
      simp only [lockkeeperlaw3_OriginLabels.j0, Bool.false_eq_true, if_false]
      have := OriginLabels_l0 l (by omega) (by omega) hb.2 l.length 0 ⟨#[]⟩ [] (by omega) rfl (by decide) (by omega) (fun _ => rfl)
      simpa using this
end Go.Proofs.YtbfbidifodcedaaDoor.Pure
