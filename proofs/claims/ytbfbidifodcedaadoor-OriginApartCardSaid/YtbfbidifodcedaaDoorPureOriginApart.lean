/- The printed law OriginApart tells true for every two origins (of the form's own reach). -/
import Derived.Test.YtbfbidifodcedaaDoorB3
import Derived.Test.YtbfbidifodcedaaDoorR1
import Derived.Test.YtbfbidifodcedaaDoorPr10
namespace Go.Proofs.YtbfbidifodcedaaDoor.Pure
open Go.RowKit Go.Proofs.YtbfbidifodcedaaDoor.Pr Go.Proofs.YtbfbidifodcedaaDoorW.PrintWords Go.Proofs.YtbfbidifodcedaaDoorW.PrintLast
set_option linter.unusedVariables false
set_option linter.unusedSimpArgs false

theorem apart_eq {a b c d : ByteArray} {p q : Int} {s t : ByteArray} (hs : parseS s = (a, b, p, 0)) (ht : parseS t = (c, d, q, 0)) (hst : (a = c ∧ b = d ∧ p = q) → s = t) :
    ((s.toList == t.toList) == (a.toList == c.toList && (b.toList == d.toList && (p == q)))) = true := by
  by_cases h : s = t
  · subst h
    rw [hs] at ht
    injection ht with h1 h2
    injection h2 with h2 h3
    injection h3 with h3 h4
    subst h1; subst h2; subst h3
    simp
  · have hn : ¬ (a = c ∧ b = d ∧ p = q) := fun e => h (hst e)
    have e1 : (s.toList == t.toList) = false := by
      rw [beq_eq_false_iff_ne, ne_eq, tl_eq]
      exact h
    have e2 : (a.toList == c.toList && (b.toList == d.toList && (p == q))) = false := by
      rw [Bool.and_eq_false_iff, Bool.and_eq_false_iff, beq_eq_false_iff_ne, beq_eq_false_iff_ne, beq_eq_false_iff_ne, ne_eq, ne_eq, ne_eq, tl_eq, tl_eq]
      rcases Classical.em (a = c) with h1 | h1
      · rcases Classical.em (b = d) with h2 | h2
        · exact .inr (.inr fun h3 => hn ⟨h1, h2, h3⟩)
        · exact .inr (.inl h2)
      · exact .inl h1
    rw [e1, e2]
    rfl
theorem OriginApart : ∀ (x0 : S23) (x1 : S23), (bT23 x0) → (bT23 x1) → ∃ k, lockkeeperlaw3_OriginApart.f k x0.f0 x0.f1 x0.f2 x1.f0 x1.f1 x1.f2 = some true := by
  intro x y _ _
  obtain ⟨a, b, p⟩ := x
  obtain ⟨c, d, q⟩ := y
  dsimp only
  refine Ev.rounds (g := fun k => lockkeeperlaw3_OriginApart.f k a b p c d q) ?_
  have jt : Ev (fun k => lockkeeperlaw3_OriginApart.j0 k true a b p c d q) true := by
    refine evSucc ?_
    simp only [lockkeeperlaw3_OriginApart.j0, if_true]
    exact Ev.bind awake3_ev (Ev.now _)
  unfold lockkeeperlaw3_OriginApart.f
  refine Ev.bind (long_ev 700 [a, b] (by omega) (by omega) (by simp)) ?_
  cases hL : longS 700 [a, b] with
  | true => exact evPos rfl jt
  | false =>
    refine evNeg (by decide) (Ev.bind (long_ev 700 [c, d] (by omega) (by omega) (by simp)) ?_)
    cases hM : longS 700 [c, d] with
    | true => exact evPos rfl jt
    | false =>
      have z := longS_size _ _ hL
      have z1 := z a (by simp)
      have z2 := z b (by simp)
      have y := longS_size _ _ hM
      have y1 := y c (by simp)
      have y2 := y d (by simp)
      refine evNeg (by decide) (Ev.bind (chk_ev a b p (by omega)) ?_)
      cases h : chkS a b p with
      | false => exact evNeg (by decide) jt
      | true =>
        refine evPos rfl (Ev.bind (chk_ev c d q (by omega)) ?_)
        cases g : chkS c d q with
        | false => exact jt
        | true =>
          refine evSucc ?_
          simp only [lockkeeperlaw3_OriginApart.j0, Bool.not_true, Bool.false_eq_true, if_false]
          refine Ev.bind (show_ev a b p (by omega) (by omega)) (Ev.bind (show_ev c d q (by omega) (by omega)) (evPos (apart_eq (parse_show h) (parse_show g) (by rintro ⟨rfl, rfl, rfl⟩; rfl)) ?_))
          exact Ev.bind (key_ev a b p (by omega) (by omega)) (Ev.bind (key_ev c d q (by omega) (by omega)) (evPos (apart_eq (parse_key h) (parse_key g) (by rintro ⟨rfl, rfl, rfl⟩; rfl)) (Ev.bind awake3_ev (Ev.now _))))
end Go.Proofs.YtbfbidifodcedaaDoor.Pure
