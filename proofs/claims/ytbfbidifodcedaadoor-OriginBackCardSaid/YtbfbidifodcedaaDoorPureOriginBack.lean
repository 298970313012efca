/- The printed law OriginBack tells true for every origin (of the form's own reach). -/
import Derived.Test.YtbfbidifodcedaaDoorB3
import Derived.Test.YtbfbidifodcedaaDoorR1
import Derived.Test.YtbfbidifodcedaaDoorPr11
namespace Go.Proofs.YtbfbidifodcedaaDoor.Pure
open Go.RowKit Go.Proofs.YtbfbidifodcedaaDoor.Pr Go.Proofs.YtbfbidifodcedaaDoorW.PrintWords Go.Proofs.YtbfbidifodcedaaDoorW.PrintLast
set_option linter.unusedVariables false
set_option linter.unusedSimpArgs false

theorem OriginBack : ∀ (x0 : S23), (bT23 x0) → ∃ k, lockkeeperlaw3_OriginBack.f k x0.f0 x0.f1 x0.f2 = some true := by
  intro x _
  obtain ⟨a, b, p⟩ := x
  dsimp only
  refine Ev.rounds (g := fun k => lockkeeperlaw3_OriginBack.f k a b p) ?_
  unfold lockkeeperlaw3_OriginBack.f
  refine Ev.bind (long_ev 700 [a, b] (by omega) (by omega) (by simp)) ?_
  cases hL : longS 700 [a, b] with
  | true => exact evPos rfl (Ev.bind awake3_ev (Ev.now _))
  | false =>
    have z := longS_size _ _ hL
    have z1 := z a (by simp)
    have z2 := z b (by simp)
    refine evNeg (by decide) (Ev.bind (chk_ev a b p (by omega)) ?_)
    cases h : chkS a b p with
    | true =>
      have hz := chk_size h
      refine evPos rfl (Ev.bind (show_ev a b p (by omega) (by omega)) (Ev.bind (evEq (parse_ev _ (by omega)) (parse_show h)) (Ev.bind (key_ev a b p (by omega) (by omega)) (Ev.bind (evEq (parse_ev _ (by omega)) (parse_key h)) ?_))))
      exact evPos rfl (evPos rfl (evPos (by simp) (evPos (by simp) (Ev.bind awake3_ev (Ev.now _)))))
    | false =>
      have e2 : keyS a b p = ⟨#[]⟩ := by unfold keyS; rw [h]; rfl
      have e1 : showS a b p = ⟨#[]⟩ := by unfold showS; rw [h, e2]; rfl
      refine evNeg (by decide) (Ev.bind (evEq (show_ev a b p (by omega) (by omega)) e1) (evPos (by rw [tl]) (Ev.bind (evEq (key_ev a b p (by omega) (by omega)) e2) (evPos (by rw [tl]) (Ev.bind awake3_ev (Ev.now _))))))
end Go.Proofs.YtbfbidifodcedaaDoor.Pure
