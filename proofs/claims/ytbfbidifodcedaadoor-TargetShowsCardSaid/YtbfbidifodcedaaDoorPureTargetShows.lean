
/- The printed law TargetShows tells true for every URL (of the form's own reach). -/
import Derived.Test.YtbfbidifodcedaaDoorBTShows
import Derived.Test.YtbfbidifodcedaaDoorR1
import Derived.Test.YtbfbidifodcedaaDoorPr10
namespace Go.Proofs.YtbfbidifodcedaaDoor.Pure
open Go.RowKit Go.Proofs.YtbfbidifodcedaaDoor.Pr Go.Proofs.YtbfbidifodcedaaDoorW.PrintWords Go.Proofs.YtbfbidifodcedaaDoorW.PrintLast
set_option linter.unusedVariables false
set_option linter.unusedSimpArgs false

theorem TargetShows : ∀ (x0 : S44), (bT44 x0) → ∃ k, lockkeeperlaw4_TargetShows.f k x0.f0.f0 x0.f0.f1 x0.f0.f2 x0.f1 x0.f2 = some true := by
  rintro ⟨⟨a, b, p⟩, c, d⟩ _
  dsimp only
  refine Ev.rounds (g := fun k => lockkeeperlaw4_TargetShows.f k a b p c d) ?_
  unfold lockkeeperlaw4_TargetShows.f
  refine Ev.bind (long_ev 700 [a, b, c, d] (by omega) (by omega) (by simp)) ?_
  cases hL : longS 700 [a, b, c, d] with
  | true => exact evPos rfl (Ev.bind awake4_ev (Ev.now _))
  | false =>
    have z := longS_size _ _ hL
    have z1 := z a (by simp)
    have z2 := z b (by simp)
    have z3 := z c (by simp)
    have z4 := z d (by simp)
    refine evNeg (by decide) (Ev.bind (tchk_ev a b c d p (by omega) (by omega) (by omega) (by omega)) (Ev.bind (rchk_ev a b c d p (by omega) (by omega) (by omega) (by omega)) (evPos (by simp) ?_)))
    exact Ev.bind (tShow_ev a b c d p (by omega) (by omega) (by omega) (by omega)) (Ev.bind (rShow_ev a b c d p (by omega) (by omega) (by omega) (by omega)) (evPos rfl (Ev.bind awake4_ev (Ev.now _))))
end Go.Proofs.YtbfbidifodcedaaDoor.Pure
