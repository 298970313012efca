/- The printed law HeaderNames tells true for every row of headers and every text (of the form's own reach). -/
import Derived.Test.YtojcceafgkdchaaP4
import Derived.Test.YtojcceafgkdchaaR1
import Derived.Test.YtojcceafgkdchaaPr17
namespace Go.Proofs.Ytojcceafgkdchaa.Pure
open Go.RowKit Go.Proofs.Ytojcceafgkdchaa.Pr Go.Proofs.YtojcceafgkdchaaW.PrintWords Go.Proofs.YtojcceafgkdchaaW.PrintLast
set_option linter.unusedVariables false
set_option linter.unusedSimpArgs false

noncomputable local instance memDec (x : ByteArray) (l : List ByteArray) : Decidable (x ∈ l) := Classical.propDecidable _
theorem vals_ne (l : List Hd) (name : ByteArray) : (vals l name).length > 0 ↔ lowB name ∈ namesS l := by
  rw [namesS_mem]
  constructor
  · intro h
    obtain ⟨x, hx⟩ := List.exists_mem_of_length_pos h
    obtain ⟨y, hy, _⟩ := List.mem_map.1 hx
    obtain ⟨hm, hf⟩ := List.mem_filter.1 hy
    exact ⟨y, hm, (foldB_low _ _).1 (by simpa using hf)⟩
  · rintro ⟨y, hm, e⟩
    have : trimS y.f1 ∈ vals l name := List.mem_map.2 ⟨y, List.mem_filter.2 ⟨hm, by simpa using (foldB_low _ _).2 e⟩, rfl⟩
    exact List.length_pos_of_mem this
theorem namesS_low (l : List Hd) (x : ByteArray) (h : x ∈ namesS l) : lowB x = x := by
  obtain ⟨y, _, rfl⟩ := (namesS_mem l x).1 h
  exact lowB_idem _
theorem namesS_size {l : List Hd} (hl : HOk l) (x : ByteArray) (h : x ∈ namesS l) : x.size ≤ 1000000 := by
  obtain ⟨y, hy, rfl⟩ := (namesS_mem l x).1 h
  rw [lowB_size]
  exact (hl.2 y hy).1
theorem take_mem (l : List ByteArray) (x : ByteArray) (i : Nat) (h : i < l.length) : decide (x ∈ l.take (i + 1)) = (decide (x ∈ l.take i) || decide (x = l[i])) := by
  rw [Bool.eq_iff_iff, Bool.or_eq_true, decide_eq_true_iff, decide_eq_true_iff, decide_eq_true_iff, List.take_succ_eq_append_getElem h, List.mem_append, List.mem_singleton]

theorem HeaderNames_l0 (l : List Hd) (a : ByteArray) (hl : HOk l) (ha : a.size ≤ 1000000) : ∀ (n i : Nat), i + n = (namesS l).length →
    Ev (fun k => lockkeeperlaw6_HeaderNames.l0 k l a (namesS l) (decide (lowB a ∈ (namesS l).take i)) (i : Int)) true := by
  have hL := hl.1
  have hN := namesS_length l
  intro n
  induction n with
  | zero =>
    intro i hi
    refine evSucc ?_
    simp only [lockkeeperlaw6_HeaderNames.l0]
    refine evNeg (by omega) (Ev.bind (get_ev l a hl ha) (evPos ?_ (evPos (by omega) (Ev.bind awake6_ev (Ev.now _)))))
    have e : (namesS l).take i = namesS l := List.take_of_length_le (by omega)
    rw [e]
    have := vals_ne l a
    simp only [getS, beq_iff_eq, Bool.decide_iff_dist, decide_eq_decide]
    rw [← this]
    omega
  | succ n ih =>
    intro i hi
    have hlt : i < (namesS l).length := by omega
    have j2 : Ev (fun k => lockkeeperlaw6_HeaderNames.j2 k l a (namesS l) (decide (lowB a ∈ (namesS l).take i)) (i : Int) false) true := by
      refine evSucc ?_
      simp only [lockkeeperlaw6_HeaderNames.j2]
      have hm : (namesS l)[i] ∈ namesS l := List.getElem_mem hlt
      have hsz := namesS_size hl _ hm
      have e2 : wrap64 ((i : Int) + 1) = ((i + 1 : Nat) : Int) := by unfold wrap64; omega
      have ih' := ih (i + 1) (by omega)
      rw [take_mem _ _ _ hlt] at ih'
      rw [rdOf_get _ _ hlt, e2]
      have hg : (getS l (namesS l)[i]).2 = true := by
        have := (vals_ne l (namesS l)[i]).2 (by rw [namesS_low l _ hm]; exact hm)
        simp only [getS, decide_eq_true_eq]
        omega
      refine evNeg (by decide) (evPos (by omega) (evPos (by omega) (Ev.bind (get_ev l _ hl hsz) (evPos hg ?_))))
      cases hx : decide (lowB a ∈ (namesS l).take i) with
      | true =>
        rw [hx, Bool.true_or] at ih'
        exact evPos rfl ih'
      | false =>
        rw [hx, Bool.false_or] at ih'
        refine evNeg (by decide) (evBind (lower_f a (by omega)) ?_)
        have e3 : ((bsOf (lowL a.data.toList)).toList == (namesS l)[i].toList) = decide (lowB a = (namesS l)[i]) := by
          rw [Bool.eq_iff_iff, beq_iff_eq, tl_eq, decide_eq_true_iff]
          rfl
        rw [e3]
        exact ih'
    refine evSucc ?_
    simp only [lockkeeperlaw6_HeaderNames.l0]
    refine evPos (by omega) ?_
    rcases Nat.eq_zero_or_pos i with rfl | hp
    · exact evNeg (by omega) j2
    · have e1 : wrap64 ((i : Int) - 1) = ((i - 1 : Nat) : Int) := by unfold wrap64; omega
      rw [e1]
      refine evPos (by omega) (evPos (by omega) (evPos (by omega) (evPos (by omega) ?_)))
      have := less_next (l.map fun h => lowB h.f0) (i - 1) (by have : (riseB (l.map fun h => lowB h.f0)).length = (namesS l).length := rfl; omega)
      rw [show i - 1 + 1 = i by omega] at this
      rw [show riseB (l.map fun h => lowB h.f0) = namesS l from rfl] at this
      rw [this]
      exact j2

theorem HeaderNames : ∀ (l0 : List (S26)) (a1 : ByteArray), (l0.length ≤ maxLen ∧ ∀ x_ ∈ l0, bT26 x_) → a1.size ≤ 140737488351232 → ∃ k, lockkeeperlaw6_HeaderNames.f k l0 a1 = some true := by
  intro l a _ _
  refine Ev.rounds (g := fun k => lockkeeperlaw6_HeaderNames.f k l a) ?_
  have jt : Ev (fun k => lockkeeperlaw6_HeaderNames.j0 k l a true) true := by
    refine evSucc ?_
    simp only [lockkeeperlaw6_HeaderNames.j0, if_true]
    exact Ev.bind awake6_ev (Ev.now _)
  unfold lockkeeperlaw6_HeaderNames.f
  obtain ⟨b, hb, hB⟩ := great_ev l
  refine Ev.bind hb ?_
  cases b with
  | true => exact evPos rfl jt
  | false =>
    refine evNeg (by decide) (Ev.bind (long_ev 600 [a] (by omega) (by omega) (by simp)) ?_)
    cases hL : longS 600 [a] with
    | true => exact jt
    | false =>
      have s1 := longS_size _ _ hL a (by simp)
      have hl := (hB rfl).ok
      refine evSucc ?_
      simp only [lockkeeperlaw6_HeaderNames.j0, Bool.false_eq_true, if_false]
      refine Ev.bind (names_ev l hl) ?_
      have := HeaderNames_l0 l a hl (by omega) (namesS l).length 0 (by omega)
      simpa using this
end Go.Proofs.Ytojcceafgkdchaa.Pure
