/- The printed law HeaderJoins tells true for every two rows of headers and every text (of the form's own reach). -/
import Derived.Test.YtojcceafgkdchaaP3
import Derived.Test.YtojcceafgkdchaaR1
import Derived.Test.YtojcceafgkdchaaPr9
namespace Go.Proofs.Ytojcceafgkdchaa.Pure
open Go.RowKit Go.Proofs.Ytojcceafgkdchaa.Pr Go.Proofs.YtojcceafgkdchaaW.PrintWords Go.Proofs.YtojcceafgkdchaaW.PrintLast
set_option linter.unusedVariables false
set_option linter.unusedSimpArgs false

theorem joinS_append {l m : List ByteArray} (hl : l ≠ []) (hm : m ≠ []) : joinS (l ++ m) = (joinS l ++ (⟨#[44, 32]⟩ : ByteArray)) ++ joinS m := by
  apply ba_ext
  rw [append_list, append_list]
  unfold joinS joinB
  simp only [bsOf_data, List.map_append]
  generalize hx : l.map (·.data.toList) = xs
  generalize hy : m.map (·.data.toList) = ys
  have hx' : xs ≠ [] := by rw [← hx]; simpa using hl
  have hy' : ys ≠ [] := by rw [← hy]; simpa using hm
  clear hx hy hl hm
  induction xs with
  | nil => exact absurd rfl hx'
  | cons a xs ih =>
    cases xs with
    | nil =>
      cases ys with
      | nil => exact absurd rfl hy'
      | cons b ys => simp [Lib.join, List.intercalate, List.intersperse]
    | cons b xs =>
      have := ih (by simp)
      simp [Lib.join, List.intercalate, List.intersperse] at this ⊢
      rw [this]
theorem joinS_nil : joinS [] = ⟨#[]⟩ := by
  unfold joinS joinB
  simp [Lib.join, bsOf]

theorem HeaderJoins : ∀ (l0 : List (S26)) (l1 : List (S26)) (a2 : ByteArray), (l0.length ≤ maxLen ∧ ∀ x_ ∈ l0, bT26 x_) → (l1.length ≤ maxLen ∧ ∀ x_ ∈ l1, bT26 x_) → a2.size ≤ 140737488351232 → ∃ k, lockkeeperlaw6_HeaderJoins.f k l0 l1 a2 = some true := by
  intro l m a _ _ _
  refine Ev.rounds (g := fun k => lockkeeperlaw6_HeaderJoins.f k l m a) ?_
  have jt : Ev (fun k => lockkeeperlaw6_HeaderJoins.j0 k l m a true) true := by
    refine evSucc ?_
    simp only [lockkeeperlaw6_HeaderJoins.j0, if_true]
    exact Ev.bind awake6_ev (Ev.now _)
  unfold lockkeeperlaw6_HeaderJoins.f
  obtain ⟨b, hb, hB⟩ := great_ev l
  refine Ev.bind hb ?_
  cases b with
  | true => exact evPos rfl jt
  | false =>
    obtain ⟨c, hc, hC⟩ := great_ev m
    refine evNeg (by decide) (Ev.bind hc ?_)
    cases c with
    | true => exact evPos rfl jt
    | false =>
      refine evNeg (by decide) (Ev.bind (long_ev 600 [a] (by omega) (by omega) (by simp)) ?_)
      cases hL : longS 600 [a] with
      | true => exact jt
      | false =>
        have s1 := longS_size _ _ hL a (by simp)
        have hl := hB rfl
        have hm := hC rfl
        have h1 := hl.1
        have h2 := hm.1
        have hlm : HOk (l ++ m) := hl.ok.append hm.ok (by rw [List.length_append]; omega)
        have j1 := vals_join hl.ok a
        have j2 := vals_join hm.ok a
        refine evSucc ?_
        simp only [lockkeeperlaw6_HeaderJoins.j0, Bool.false_eq_true, if_false]
        refine Ev.bind (get_ev l a hl.ok (by omega)) (Ev.bind (get_ev m a hm.ok (by omega)) (evPos (by simp; omega) (evBind rfl (evPos (by rw [List.nil_append]; omega) ?_))))
        rw [List.nil_append]
        refine Ev.bind (get_ev (l ++ m) a hlm (by omega)) ?_
        have hv := vals_append l m a
        unfold getS
        rw [hv]
        generalize vals l a = x at j1 hv
        generalize vals m a = y at j2 hv
        dsimp only
        refine evPos (by omega) ?_
        have aw : Ev (fun k => (lockkeeperlaw6_awake.f k).bind fun t => some t) true := Ev.bind awake6_ev (Ev.now _)
        by_cases hx : x = []
        · subst hx
          refine evNeg (by simp) (evPos (by simp) (evPos ?_ aw))
          rw [joinS_nil, List.nil_append, tl_eq]
          exact ba_ext (by rw [append_list]; rfl)
        · have hxl : 0 < x.length := List.length_pos_iff.2 hx
          refine evPos (by simpa using hxl) ?_
          by_cases hy : y = []
          · subst hy
            refine evNeg (by simp) (evPos ?_ (evPos ?_ aw))
            · simp; omega
            · rw [joinS_nil, List.append_nil, tl_eq]
              exact ba_ext (by rw [append_list]; simp)
          · have hyl : 0 < y.length := List.length_pos_iff.2 hy
            refine evPos (by simpa using hyl) (evPos (by omega) (evPos ?_ (evPos ?_ (evPos ?_ aw))))
            · have e2 : ((⟨#[44, 32]⟩ : ByteArray)).size = 2 := rfl
              rw [ByteArray.size_append, e2]
              omega
            · simp; omega
            · rw [joinS_append hx hy]
end Go.Proofs.Ytojcceafgkdchaa.Pure
