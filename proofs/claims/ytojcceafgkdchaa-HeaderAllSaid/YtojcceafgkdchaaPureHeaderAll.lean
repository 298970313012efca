/- The printed law HeaderAll tells true for every two rows of headers and every two texts (of the form's own reach). -/
import Derived.Test.YtojcceafgkdchaaPS
import Derived.Test.YtojcceafgkdchaaR1
import Derived.Test.YtojcceafgkdchaaPr8
namespace Go.Proofs.Ytojcceafgkdchaa.Pure
open Go.RowKit Go.Proofs.Ytojcceafgkdchaa.Pr Go.Proofs.YtojcceafgkdchaaW.PrintWords Go.Proofs.YtojcceafgkdchaaW.PrintLast
set_option linter.unusedVariables false
set_option linter.unusedSimpArgs false

theorem equal_l0 (X Y : List Hd) (hl : X.length = Y.length) (hX : X.length ≤ 1000000) : ∀ n i, i + n = X.length → Ev (fun k => api_Header.l0 k X Y (X.length : Int) (i : Int)) (decide (X.drop i = Y.drop i)) := by
  intro n
  induction n with
  | zero =>
    intro i hi
    rw [List.drop_of_length_le (by omega), List.drop_of_length_le (by omega)]
    refine evSucc ?_
    simp only [api_Header.l0]
    exact evNeg (by omega) (Ev.now _)
  | succ n ih =>
    intro i hi
    have hlt : i < X.length := by omega
    have hlt2 : i < Y.length := by omega
    have e2 : wrap64 ((i : Int) + 1) = ((i + 1 : Nat) : Int) := by unfold wrap64; omega
    refine evSucc ?_
    simp only [api_Header.l0, e2]
    rw [rdT_get _ _ hlt, rdT_get _ _ hlt2, List.drop_eq_getElem_cons hlt, List.drop_eq_getElem_cons hlt2]
    refine evPos (by omega) (evPos (by omega) (evPos (by omega) (evPos (by omega) ?_)))
    by_cases h : X[i] = Y[i]
    · refine evNeg (fun hn => (hd_ne _ _).1 hn h) (evEq (ih (i + 1) (by omega)) ?_)
      rw [h]
      exact decide_eq_decide.2 ⟨fun e => by rw [e], fun e => (List.cons.inj e).2⟩
    · refine evPos ((hd_ne _ _).2 h) (evEq (Ev.now _) ?_)
      exact (decide_eq_false (fun e => h (List.cons.inj e).1)).symm
theorem equal_ev (X Y : List Hd) (hX : X.length ≤ 1000000) : Ev (fun k => api_Header.f k X Y) (decide (X = Y)) := by
  unfold api_Header.f
  by_cases h : X.length = Y.length
  · refine evPos (by omega) ?_
    have := equal_l0 X Y h hX X.length 0 (by omega)
    simpa using this
  · refine evNeg (by omega) (evEq (Ev.now _) ?_)
    exact (decide_eq_false (fun e => h (by rw [e]))).symm
theorem hsame_ev (l m : List Hd) (hl : HOk l) (hm : HOk m) : Ev (fun k => header_Same.f k l m) (decide (normS l = normS m)) := by
  unfold header_Same.f
  have n1 : (normS l).length = l.length := by simp [normS]
  have h1 := hl.1
  exact Ev.bind (norm_ev l hl) (Ev.bind (norm_ev m hm) (Ev.bind (equal_ev _ _ (by omega)) (Ev.now _)))
theorem HeaderAll : ∀ (l0 : List (S26)) (l1 : List (S26)) (a2 : ByteArray) (a3 : ByteArray), (l0.length ≤ maxLen ∧ ∀ x_ ∈ l0, bT26 x_) → (l1.length ≤ maxLen ∧ ∀ x_ ∈ l1, bT26 x_) → a2.size ≤ 140737488351232 → a3.size ≤ 140737488351232 → ∃ k, lockkeeperlaw6_HeaderAll.f k l0 l1 a2 a3 = some true := by
  intro l m name value _ _ _ _
  refine Ev.rounds (g := fun k => lockkeeperlaw6_HeaderAll.f k l m name value) ?_
  have jt : Ev (fun k => lockkeeperlaw6_HeaderAll.j0 k l m name value true) true := by
    refine evSucc ?_
    simp only [lockkeeperlaw6_HeaderAll.j0, if_true]
    exact Ev.bind awake6_ev (Ev.now _)
  unfold lockkeeperlaw6_HeaderAll.f
  obtain ⟨b, hb, hB⟩ := great_ev l
  refine Ev.bind hb ?_
  cases b with
  | true => exact evPos rfl jt
  | false =>
    obtain ⟨c, hc, hC⟩ := great_ev m
    refine evNeg (by decide) (Ev.bind hc ?_)
    cases c with
    | true => exact evPos rfl jt
    | false =>
      refine evNeg (by decide) (Ev.bind (long_ev 600 [name, value] (by omega) (by omega) (by simp)) ?_)
      cases hL : longS 600 [name, value] with
      | true => exact jt
      | false =>
        have z := longS_size _ _ hL
        have z1 := z name (by simp)
        have z2 := z value (by simp)
        have hl := (hB rfl).ok
        have hm := (hC rfl).ok
        have l1 := hl.1
        have nl : (normS l).length = l.length := by simp [normS]
        have sl : (setS l name value).length ≤ l.length + 1 := setGo_length name value l false
        have nm := namesS_length l
        refine evSucc ?_
        simp only [lockkeeperlaw6_HeaderAll.j0, Bool.false_eq_true, if_false]
        refine Ev.bind (get_ev l name hl (by omega)) (Ev.bind (rget_ev l name hl (by omega)) (Ev.bind (check_ev l hl) (Ev.bind (rcheck_ev l hl) (evPos rfl ?_))))
        refine Ev.bind (norm_ev l hl) (Ev.bind (rnorm_ev l hl) (Ev.bind (headers_refl _ (by omega)) (evPos rfl ?_)))
        refine Ev.bind (hsame_ev l m hl hm) (Ev.bind (rsame_ev l m hl hm) (evPos (by simp) (evPos rfl (evPos (by simp) ?_))))
        refine Ev.bind (set_ev l name value hl (by omega)) (Ev.bind (rset_ev l name value hl (by omega)) (Ev.bind (headers_refl _ (by omega)) (evPos rfl ?_)))
        refine Ev.bind (names_ev l hl) (Ev.bind (rnames_ev l hl) (Ev.bind (texts_refl _ (by omega)) (evPos rfl ?_)))
        exact Ev.bind awake6_ev (Ev.now _)
end Go.Proofs.Ytojcceafgkdchaa.Pure
