/- The printed law HeaderSets tells true for every row of headers and every three texts (of the form's own reach). -/
import Derived.Test.YtojcceafgkdchaaP3
import Derived.Test.YtojcceafgkdchaaR1
import Derived.Test.YtojcceafgkdchaaPr8
namespace Go.Proofs.Ytojcceafgkdchaa.Pure
open Go.RowKit Go.Proofs.Ytojcceafgkdchaa.Pr Go.Proofs.YtojcceafgkdchaaW.PrintWords Go.Proofs.YtojcceafgkdchaaW.PrintLast
set_option linter.unusedVariables false
set_option linter.unusedSimpArgs false

theorem vals_setGo_same (name value : ByteArray) : ∀ (r : List Hd) (b : Bool), vals (setGo name value b r) name = if b then [] else [trimS value] := by
  intro r
  induction r with
  | nil => intro b; cases b <;> simp [setGo, vals, foldB_refl]
  | cons h r ih =>
    intro b
    unfold setGo
    cases hf : foldB h.f0 name with
    | true =>
      cases b with
      | true => simpa using ih true
      | false =>
        have := ih true
        simp only [if_true, Bool.false_eq_true, if_false]
        rw [show (⟨h.f0, value⟩ : Hd) :: setGo name value true r = [⟨h.f0, value⟩] ++ setGo name value true r from rfl, vals_append, this]
        simp [vals, hf]
    | false =>
      have := ih b
      simp only [Bool.false_eq_true, if_false]
      rw [show h :: setGo name value b r = [h] ++ setGo name value b r from rfl, vals_append, this]
      simp [vals, hf]
theorem vals_setGo_other (name value other : ByteArray) (hno : foldB name other = false) : ∀ (r : List Hd) (b : Bool), vals (setGo name value b r) other = vals r other := by
  intro r
  induction r with
  | nil => intro b; cases b <;> simp [setGo, vals, hno]
  | cons h r ih =>
    intro b
    rw [show vals (h :: r) other = vals [h] other ++ vals r other from vals_append [h] r other]
    unfold setGo
    cases hf : foldB h.f0 name with
    | true =>
      have ho : foldB h.f0 other = false := by rw [foldB_trans hf]; exact hno
      have hv : vals [h] other = [] := by simp [vals, ho]
      rw [hv, List.nil_append]
      cases b with
      | true => simpa using ih true
      | false =>
        simp only [if_true, Bool.false_eq_true, if_false]
        rw [show (⟨h.f0, value⟩ : Hd) :: setGo name value true r = [⟨h.f0, value⟩] ++ setGo name value true r from rfl, vals_append, ih true]
        simp [vals, ho]
    | false =>
      simp only [Bool.false_eq_true, if_false]
      rw [show h :: setGo name value b r = [h] ++ setGo name value b r from rfl, vals_append, ih b]
theorem setGo_none (name value : ByteArray) : ∀ (r : List Hd), setGo name value true (setGo name value true r) = setGo name value true r := by
  intro r
  induction r with
  | nil => rfl
  | cons h r ih =>
    cases hf : foldB h.f0 name with
    | true => rw [setGo, hf]; simpa using ih
    | false =>
      rw [setGo, hf]
      simp only [Bool.false_eq_true, if_false]
      rw [setGo, hf]
      simp [ih]
theorem setGo_again (name value : ByteArray) : ∀ (r : List Hd), setGo name value false (setGo name value false r) = setGo name value false r := by
  intro r
  induction r with
  | nil => simp [setGo, foldB_refl]
  | cons h r ih =>
    cases hf : foldB h.f0 name with
    | true =>
      rw [setGo, hf]
      simp only [if_true, Bool.false_eq_true, if_false]
      rw [setGo, hf]
      simp [setGo_none]
    | false =>
      rw [setGo, hf]
      simp only [Bool.false_eq_true, if_false]
      rw [setGo, hf]
      simp [ih]
theorem setGo_mem (name value : ByteArray) : ∀ (r : List Hd) (b : Bool) (h : Hd), h ∈ setGo name value b r → h.f1 = value ∧ (h.f0 = name ∨ ∃ x ∈ r, x.f0 = h.f0) ∨ h ∈ r := by
  intro r
  induction r with
  | nil =>
    intro b h hm
    cases b with
    | true => simp [setGo] at hm
    | false => simp [setGo] at hm; subst hm; exact .inl ⟨rfl, .inl rfl⟩
  | cons x r ih =>
    intro b h hm
    have up : (h.f1 = value ∧ (h.f0 = name ∨ ∃ x ∈ r, x.f0 = h.f0) ∨ h ∈ r) → (h.f1 = value ∧ (h.f0 = name ∨ ∃ y ∈ x :: r, y.f0 = h.f0) ∨ h ∈ x :: r) := by
      rintro (⟨h1, h2 | ⟨y, hy, h2⟩⟩ | h1)
      · exact .inl ⟨h1, .inl h2⟩
      · exact .inl ⟨h1, .inr ⟨y, List.mem_cons_of_mem _ hy, h2⟩⟩
      · exact .inr (List.mem_cons_of_mem _ h1)
    unfold setGo at hm
    split at hm
    · split at hm
      · exact up (ih _ _ hm)
      · rcases List.mem_cons.1 hm with rfl | hm
        · exact .inl ⟨rfl, .inr ⟨x, by simp, rfl⟩⟩
        · exact up (ih _ _ hm)
    · rcases List.mem_cons.1 hm with rfl | hm
      · exact .inr (by simp)
      · exact up (ih _ _ hm)
theorem setS_ok {l : List Hd} (hl : HSmall l) (name value : ByteArray) (hn : name.size ≤ 1000) (hv : value.size ≤ 1000) : HOk (setS l name value) := by
  refine ⟨?_, fun h hm => ?_⟩
  · have h1 := setGo_length name value l false
    have h2 := hl.1
    unfold setS
    omega
  · rcases setGo_mem name value l false h hm with ⟨h1, h2 | ⟨x, hx, h2⟩⟩ | h1
    · rw [h1, h2]; omega
    · have := hl.2 x hx
      rw [h1, ← h2]; omega
    · have := hl.2 h h1
      omega

theorem HeaderSets : ∀ (l0 : List (S26)) (a1 : ByteArray) (a2 : ByteArray) (a3 : ByteArray), (l0.length ≤ maxLen ∧ ∀ x_ ∈ l0, bT26 x_) → a1.size ≤ 140737488351232 → a2.size ≤ 140737488351232 → a3.size ≤ 140737488351232 → ∃ k, lockkeeperlaw6_HeaderSets.f k l0 a1 a2 a3 = some true := by
  intro l a1 a2 a3 _ _ _ _
  refine Ev.rounds (g := fun k => lockkeeperlaw6_HeaderSets.f k l a1 a2 a3) ?_
  have jt : Ev (fun k => lockkeeperlaw6_HeaderSets.j0 k l a1 a2 a3 true) true := by
    refine evSucc ?_
    simp only [lockkeeperlaw6_HeaderSets.j0, if_true]
    exact Ev.bind awake6_ev (Ev.now _)
  unfold lockkeeperlaw6_HeaderSets.f
  obtain ⟨b, hb, hB⟩ := great_ev l
  refine Ev.bind hb ?_
  cases b with
  | true => exact evPos rfl jt
  | false =>
    refine evNeg (by decide) (Ev.bind (long_ev 600 [a1, a2, a3] (by omega) (by omega) (by simp)) ?_)
    cases hL : longS 600 [a1, a2, a3] with
    | true => exact jt
    | false =>
      have hs := longS_size _ _ hL
      have s1 := hs a1 (by simp)
      have s2 := hs a2 (by simp)
      have s3 := hs a3 (by simp)
      have hl := hB rfl
      have hm := setS_ok hl a1 a2 (by omega) (by omega)
      have v1 : vals (setS l a1 a2) a1 = [trimS a2] := vals_setGo_same a1 a2 l false
      have g1 : getS (setS l a1 a2) a1 = (trimS a2, true) := by
        unfold getS
        rw [v1]
        simp [joinS, joinB, Lib.join, bsOf_of]
      refine evSucc ?_
      simp only [lockkeeperlaw6_HeaderSets.j0, Bool.false_eq_true, if_false]
      refine Ev.bind (set_ev l a1 a2 hl.ok (by omega)) (Ev.bind (evEq (get_ev _ a1 hm (by omega)) g1) (evPos rfl (Ev.bind (trim_ev a2 (by omega)) (evPos rfl ?_))))
      have e : setS (setS l a1 a2) a1 a2 = setS l a1 a2 := setGo_again a1 a2 l
      refine Ev.bind (evEq (set_ev _ a1 a2 hm (by omega)) e) (Ev.bind (headers_refl _ (by have := hm.1; omega)) ?_)
      refine evSucc ?_
      simp only [lockkeeperlaw6_HeaderSets.j1, Bool.not_true, Bool.false_eq_true, if_false]
      refine evBind (fold_f a1 a3 (by omega) (by omega)) ?_
      cases hf : foldB a1 a3 with
      | true => exact evPos rfl (Ev.bind awake6_ev (Ev.now _))
      | false =>
        refine evNeg (by decide) (Ev.bind (get_ev l a3 hl.ok (by omega)) (Ev.bind (get_ev _ a3 hm (by omega)) ?_))
        have g3 : getS (setS l a1 a2) a3 = getS l a3 := by
          unfold getS
          rw [show vals (setS l a1 a2) a3 = vals l a3 from vals_setGo_other a1 a2 a3 hf l false]
        rw [g3]
        exact evPos rfl (evPos (by simp) (Ev.bind awake6_ev (Ev.now _)))
end Go.Proofs.Ytojcceafgkdchaa.Pure
