/- The printed law OctetAll tells true for every two texts and every row of texts (of the form's own reach). -/
import Derived.Test.YtojcceafgkdchaaDoorD5
import Derived.Test.YtojcceafgkdchaaDoorPr12
namespace Go.Proofs.YtojcceafgkdchaaDoor.Pure
open Go.RowKit Go.Proofs.YtojcceafgkdchaaDoor.Pr Go.Proofs.YtojcceafgkdchaaDoorW.PrintWords Go.Proofs.YtojcceafgkdchaaDoorW.PrintLast
set_option linter.unusedVariables false
set_option linter.unusedSimpArgs false

theorem OctetAll : ∀ (a0 : ByteArray) (a1 : ByteArray) (l2 : List (ByteArray)), a0.size ≤ 140737488351232 → a1.size ≤ 140737488351232 → (l2.length ≤ maxLen ∧ ∀ x_ ∈ l2, x_.size ≤ maxLen) → ∃ k, lockkeeperlaw1_OctetAll.f k a0 a1 l2 = some true := by
  intro s t l h0 h1 h2
  refine Ev.rounds (g := fun k => lockkeeperlaw1_OctetAll.f k s t l) ?_
  have jt : Ev (fun k => lockkeeperlaw1_OctetAll.j0 k s t l true) true := by
    refine evSucc ?_
    simp only [lockkeeperlaw1_OctetAll.j0, if_true]
    exact Ev.bind awake1_ev (Ev.now _)
  unfold lockkeeperlaw1_OctetAll.f
  refine Ev.bind (long_ev 2000 [s, t] (by omega) (by omega) (by simp)) ?_
  cases hL : longS 2000 [s, t] with
  | true => exact evPos rfl jt
  | false =>
    have z := longS_size _ _ hL
    have z1 := z s (by simp)
    have z2 := z t (by simp)
    refine evNeg (by decide) (Ev.bind (long_any 2000 l (by omega) (by omega)) ?_)
    cases hM : longS 2000 l with
    | true => exact jt
    | false =>
      have y1 := longS_size _ _ hM
      have y2 := longS_len _ _ hM (by omega)
      have y3 : ∀ x ∈ l, x.size ≤ 2000 := fun x hx => by have := y1 x hx; omega
      have hj := os_join_size l 2000 y3
      have hj2 : l.length * (2000 + 2) ≤ 2000 * (2000 + 2) := Nat.mul_le_mul_right _ (by omega)
      have hk := keepT_length (splitC 44 s.data.toList)
      have hsp : (splitS s).length ≤ 100000000 := by
        have h3 : ∀ l : Bs, (splitC 44 l).length ≤ l.length + 1 := by
          intro l
          induction l with
          | nil => simp [splitC]
          | cons b l ih =>
            rw [splitC]
            split
            · simpa using ih
            · split
              · simp
              · rename_i x xs e; rw [e] at ih; simp at ih ⊢; omega
        have := h3 s.data.toList
        rw [← size_len] at this
        unfold splitS
        omega
      refine evSucc ?_
      simp only [lockkeeperlaw1_OctetAll.j0, Bool.false_eq_true, if_false]
      refine Ev.bind (digits_ev s (by omega)) (Ev.bind (rdig_ev s (by omega)) (evBind (lower_f s (by omega)) (evBind (rlower_f s (by omega)) (evPos rfl ?_))))
      refine evBind (fold_f s t (by omega) (by omega)) (evBind (rfold_f s t (by omega) (by omega)) (evPos (by simp) ?_))
      refine Ev.bind (token_ev s (by omega)) (Ev.bind (rtoken_ev s (by omega)) (evPos (by simp) ?_))
      refine Ev.bind (trim_ev s (by omega)) (Ev.bind (rtrim_ev s (by omega)) (evPos rfl ?_))
      refine Ev.bind (osplit_ev s (by omega)) (Ev.bind (rsplit_ev s (by omega)) (Ev.bind (texts_refl _ (by omega)) (evPos rfl ?_)))
      refine evBind (join_f l (by omega) (by omega)) (Ev.bind (rjoin_ev l 2000 (by omega) (by omega) y3) (evPos rfl (evPos rfl (evPos (by simp) ?_))))
      exact Ev.bind awake1_ev (Ev.now _)
end Go.Proofs.YtojcceafgkdchaaDoor.Pure
