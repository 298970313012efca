/- The printed law SafeMerges tells true for every two rows of headers (of the form's own reach). -/
import Derived.Test.YtojcceafgkdchaaP5
import Derived.Test.YtojcceafgkdchaaR1
import Derived.Test.YtojcceafgkdchaaPr22
namespace Go.Proofs.Ytojcceafgkdchaa.Pure
open Go.RowKit Go.Proofs.Ytojcceafgkdchaa.Pr Go.Proofs.YtojcceafgkdchaaW.PrintWords Go.Proofs.YtojcceafgkdchaaW.PrintLast
set_option linter.unusedVariables false
set_option linter.unusedSimpArgs false

theorem snames_small (l : List Hd) (h : ¬ (totalN l : Int) > 1024) : snames l = riseB (unsafeN l) := by
  unfold snames
  rw [if_neg h]
theorem mem_parts (l : List Hd) (x : ByteArray) : x ∈ unsafeN l ++ safeN l ↔ x ∈ l.map fun h => lowB h.f0 := by
  rw [List.mem_append]
  constructor
  · rintro (h | h)
    all_goals
      obtain ⟨y, hy, e⟩ := List.mem_map.1 h
      exact List.mem_map.2 ⟨y, (List.mem_filter.1 hy).1, e⟩
  · intro h
    obtain ⟨y, hy, e⟩ := List.mem_map.1 h
    cases hs : hsafe y with
    | true => exact .inr (List.mem_map.2 ⟨y, List.mem_filter.2 ⟨hy, hs⟩, e⟩)
    | false => exact .inl (List.mem_map.2 ⟨y, List.mem_filter.2 ⟨hy, by simp [hs]⟩, e⟩)
theorem snames_great (l : List Hd) (h : (totalN l : Int) > 1024) : snames l = namesS l := by
  unfold snames namesS
  rw [if_pos h]
  exact riseB_congr (mem_parts l)
theorem unsafe_low (l : List Hd) (x : ByteArray) (h : x ∈ unsafeN l) : lowB x = x := by
  obtain ⟨y, _, rfl⟩ := List.mem_map.1 h
  exact lowB_idem _
theorem unsafe_size {l : List Hd} (hl : HOk l) (x : ByteArray) (h : x ∈ unsafeN l) : x.size ≤ 1000000 := by
  obtain ⟨y, hy, rfl⟩ := List.mem_map.1 h
  rw [lowB_size]
  exact (hl.2 y (List.mem_filter.1 hy).1).1
def bare (l : List ByteArray) : List Hd := l.map fun x => ⟨x, ⟨#[]⟩⟩

theorem SafeMerges_l1 (lm : List Hd) (hlm : HOk lm) (x9 : List ByteArray) (h9 : x9.length ≤ 1000) (hs9 : ∀ x ∈ x9, x.size ≤ 1000000) (heq : snames lm = namesS (bare x9)) : ∀ n i, i + n = x9.length →
    Ev (fun k => lockkeeperlaw7_SafeMerges.l1 k lm (bare (x9.take i)) x9 (i : Int)) true := by
  intro n
  induction n with
  | zero =>
    intro i hi
    have e : x9.take i = x9 := List.take_of_length_le (by omega)
    have hb : HOk (bare x9) := by
      refine ⟨by simpa [bare] using h9, fun x hx => ?_⟩
      obtain ⟨y, hy, rfl⟩ := List.mem_map.1 hx
      exact ⟨hs9 y hy, by show (0 : Nat) ≤ _; omega⟩
    have hN := namesS_length (bare x9)
    have hbl := hb.1
    rw [e]
    refine evSucc ?_
    simp only [lockkeeperlaw7_SafeMerges.l1]
    refine evNeg (by omega) (Ev.bind (snames_ev lm hlm) (Ev.bind (names_ev _ hb) ?_))
    rw [heq]
    exact Ev.bind (texts_refl _ (by omega)) (evPos rfl (Ev.bind awake7_ev (Ev.now _)))
  | succ n ih =>
    intro i hi
    have hlt : i < x9.length := by omega
    have e2 : wrap64 ((i : Int) + 1) = ((i + 1 : Nat) : Int) := by unfold wrap64; omega
    refine evSucc ?_
    simp only [lockkeeperlaw7_SafeMerges.l1, e2]
    refine evPos (by omega) (evPos (by omega) (evPos (by simp [bare]; omega) ?_))
    have := ih (i + 1) (by omega)
    rw [List.take_succ_eq_append_getElem hlt] at this
    rw [rdOf_get _ _ hlt]
    rw [show bare (x9.take i ++ [x9[i]]) = bare (x9.take i) ++ [⟨x9[i], ⟨#[]⟩⟩] by simp only [bare, List.map_append]; rfl] at this
    exact this

theorem SafeMerges_l0 (l m : List Hd) (hl : HOk l) (hm : HOk m) (hlm : HOk (l ++ m)) (r : List Hd) : ∀ p, p ++ r = l ++ m →
    Ev (fun k => lockkeeperlaw7_SafeMerges.l0 k l m (l ++ m) (totalN p : Int) (p.length : Int)) true := by
  have hL := hlm.1
  induction r with
  | nil =>
    intro p hp
    rw [List.append_nil] at hp
    rw [hp]
    refine evSucc ?_
    simp only [lockkeeperlaw7_SafeMerges.l0]
    refine evNeg (by omega) ?_
    have hN := namesS_length (l ++ m)
    by_cases hg : (totalN (l ++ m) : Int) > 1024
    · refine evPos hg (Ev.bind (snames_ev _ hlm) (Ev.bind (names_ev _ hlm) ?_))
      rw [snames_great _ hg]
      exact Ev.bind (texts_refl _ (by omega)) (evPos rfl (Ev.bind awake7_ev (Ev.now _)))
    · refine evNeg hg ?_
      have hta := totalN_append l m
      have h1 : ¬ (totalN l : Int) > 1024 := by omega
      have h2 : ¬ (totalN m : Int) > 1024 := by omega
      have sl := snames_length l
      have sm := snames_length m
      have ll := hl.1
      have lm := hm.1
      refine Ev.bind (snames_ev l hl) (evPos (by simp; omega) (evBind rfl (Ev.bind (snames_ev m hm) (evPos (by simp; omega) ?_))))
      rw [List.nil_append]
      have hu : ∀ x, x ∈ snames l ++ snames m ↔ x ∈ unsafeN (l ++ m) := by
        intro x
        rw [snames_small l h1, snames_small m h2, unsafeN_append, List.mem_append, List.mem_append, riseB_mem, riseB_mem]
      have := SafeMerges_l1 (l ++ m) hlm (snames l ++ snames m) (by rw [List.length_append]; rw [List.length_append] at hL; omega) (fun x hx => unsafe_size hlm x ((hu x).1 hx)) (by
        rw [snames_small _ hg]
        unfold namesS bare
        refine riseB_congr fun x => ?_
        rw [List.map_map, ← hu]
        constructor
        · intro hx
          exact List.mem_map.2 ⟨x, hx, unsafe_low _ x ((hu x).1 hx)⟩
        · intro hx
          obtain ⟨y, hy, e⟩ := List.mem_map.1 hx
          have : lowB y = x := e
          rw [unsafe_low _ y ((hu y).1 hy)] at this
          rw [← this]
          exact hy) (snames l ++ snames m).length 0 (by omega)
      simpa [bare] using this
  | cons h r ih =>
    intro p hp
    have hlen : (l ++ m).length = p.length + (r.length + 1) := by rw [← hp]; simp
    have hh := hlm.2 h (by rw [← hp]; simp)
    have hr : rd_T26 (l ++ m) (p.length : Int) = h := by rw [← hp]; exact rd_mid p h r
    have e2 : wrap64 ((p.length : Int) + 1) = ((p ++ [h]).length : Int) := by simp; unfold wrap64; omega
    have hpo : HOk p := by rw [← hp] at hlm; exact hlm.left
    have ht := totalN_le hpo
    have htr := trimS_size h.f1
    have ih' := ih (p ++ [h]) (by simpa using hp)
    rw [totalN_append] at ih'
    refine evSucc ?_
    simp only [lockkeeperlaw7_SafeMerges.l0, hr, e2]
    refine evPos (by omega) (evPos (by omega) (Ev.bind (header_ev _ _ hh.1 hh.2) ?_))
    cases hd : safeS h.f0 h.f1 with
    | true =>
      refine evPos rfl (Ev.bind (trim_ev _ (by omega)) ?_)
      have e3 : wrap64 ((totalN p : Int) + ((trimS h.f1).size : Int)) = ((totalN p + totalN [h] : Nat) : Int) := by
        have : totalN [h] = (trimS h.f1).size := by simp [totalN, hsafe, hd]
        rw [this]
        unfold wrap64
        omega
      rw [e3]
      exact ih'
    | false =>
      have e3 : totalN [h] = 0 := by simp [totalN, hsafe, hd]
      rw [e3, Nat.add_zero] at ih'
      exact evNeg (by decide) ih'

theorem SafeMerges : ∀ (l0 : List (S26)) (l1 : List (S26)), (l0.length ≤ maxLen ∧ ∀ x_ ∈ l0, bT26 x_) → (l1.length ≤ maxLen ∧ ∀ x_ ∈ l1, bT26 x_) → ∃ k, lockkeeperlaw7_SafeMerges.f k l0 l1 = some true := by
  intro l m _ _
  refine Ev.rounds (g := fun k => lockkeeperlaw7_SafeMerges.f k l m) ?_
  have jt : Ev (fun k => lockkeeperlaw7_SafeMerges.j0 k l m true) true := by
    refine evSucc ?_
    simp only [lockkeeperlaw7_SafeMerges.j0, if_true]
    exact Ev.bind awake7_ev (Ev.now _)
  unfold lockkeeperlaw7_SafeMerges.f
  obtain ⟨b, hb, hB⟩ := great_ev l
  refine Ev.bind hb ?_
  cases b with
  | true => exact evPos rfl jt
  | false =>
    obtain ⟨c, hc, hC⟩ := great_ev m
    refine evNeg (by decide) (Ev.bind hc ?_)
    cases c with
    | true => exact jt
    | false =>
      have hl := hB rfl
      have hm := hC rfl
      have h1 := hl.1
      have h2 := hm.1
      have hlm : HOk (l ++ m) := hl.ok.append hm.ok (by rw [List.length_append]; omega)
      refine evSucc ?_
      simp only [lockkeeperlaw7_SafeMerges.j0, Bool.false_eq_true, if_false]
      refine evPos (by simp; omega) (evBind rfl (evPos (by simp; omega) ?_))
      rw [List.nil_append]
      have := SafeMerges_l0 l m hl.ok hm.ok hlm (l ++ m) [] rfl
      simpa [totalN] using this
end Go.Proofs.Ytojcceafgkdchaa.Pure
