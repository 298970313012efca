
/- The printed law TargetBack tells true for every URL and every text (of the form's own reach). -/
import Derived.Test.YtbfbidifodcedaaDoorBTBack
import Derived.Test.YtbfbidifodcedaaDoorR1
import Derived.Test.YtbfbidifodcedaaDoorPr18
namespace Go.Proofs.YtbfbidifodcedaaDoor.Pure
open Go.RowKit Go.Proofs.YtbfbidifodcedaaDoor.Pr Go.Proofs.YtbfbidifodcedaaDoorW.PrintWords Go.Proofs.YtbfbidifodcedaaDoorW.PrintLast
set_option linter.unusedVariables false
set_option linter.unusedSimpArgs false

theorem back_f (a b c d s : ByteArray) (p : Int) : ∃ k, lockkeeperlaw4_TargetBack.f k a b p c d s = some true := by
  refine Ev.rounds (g := fun k => lockkeeperlaw4_TargetBack.f k a b p c d s) ?_
  have jt : Ev (fun k => lockkeeperlaw4_TargetBack.j0 k s true a b p c d) true := by
    refine evSucc ?_
    simp only [lockkeeperlaw4_TargetBack.j0, if_true]
    exact Ev.bind awake4_ev (Ev.now _)
  unfold lockkeeperlaw4_TargetBack.f
  refine Ev.bind (long_ev 700 [a, b, c, d] (by omega) (by omega) (by simp)) ?_
  cases hL : longS 700 [a, b, c, d] with
  | true => exact evPos rfl jt
  | false =>
    have z := longS_size _ _ hL
    have z1 := z a (by simp)
    have z2 := z b (by simp)
    have z3 := z c (by simp)
    have z4 := z d (by simp)
    refine evNeg (by decide) (Ev.bind (long_ev 700 [s] (by omega) (by omega) (by simp)) ?_)
    cases hM : longS 700 [s] with
    | true => exact jt
    | false =>
      have zs := longS_size _ _ hM s (by simp)
      obtain ⟨y1, y2, y3, y4⟩ := tparse_sizes s (by omega)
      have hcode := tparse_code s
      refine evSucc ?_
      simp only [lockkeeperlaw4_TargetBack.j0, Bool.false_eq_true, if_false]
      refine Ev.bind (tparse_ev s (by omega)) (Ev.bind (tchk_ev _ _ _ _ _ y1 y2 y3 y4) (evNeg (by rw [hcode]; simp) (Ev.bind (tchk_ev a b c d p (by omega) (by omega) (by omega) (by omega)) ?_)))
      cases h : tchkS a b p c d with
      | true =>
        have e : tShowS a b p c d = tshowS a b p c d := by unfold tShowS; rw [if_pos h]
        have hz := (tchk_parts h).2.2.2
        exact evPos rfl (Ev.bind (evEq (tShow_ev a b c d p (by omega) (by omega) (by omega) (by omega)) e) (Ev.bind (evEq (tparse_ev _ (by omega)) (tparse_show h)) (evPos rfl (evPos (by simp) (Ev.bind awake4_ev (Ev.now _))))))
      | false =>
        have e : tShowS a b p c d = ⟨#[]⟩ := by unfold tShowS; rw [h]; rfl
        exact evNeg (by decide) (Ev.bind (evEq (tShow_ev a b c d p (by omega) (by omega) (by omega) (by omega)) e) (evPos (by rw [tl]) (Ev.bind awake4_ev (Ev.now _))))
theorem TargetBack : ∀ (x0 : S44) (a1 : ByteArray), (bT44 x0) → a1.size ≤ 140737488351232 → ∃ k, lockkeeperlaw4_TargetBack.f k x0.f0.f0 x0.f0.f1 x0.f0.f2 x0.f1 x0.f2 a1 = some true := by
  rintro ⟨⟨a, b, p⟩, c, d⟩ s _ _
  exact back_f a b c d s p
end Go.Proofs.YtbfbidifodcedaaDoor.Pure
