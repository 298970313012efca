/- The printed law OriginCases tells true for every text and every mask (of the form's own reach). -/
import Derived.Test.YtbfbidifodcedaaDoorB3
import Derived.Test.YtbfbidifodcedaaDoorPr7
namespace Go.Proofs.YtbfbidifodcedaaDoor.Pure
open Go.RowKit Go.Proofs.YtbfbidifodcedaaDoor.Pr Go.Proofs.YtbfbidifodcedaaDoorW.PrintWords Go.Proofs.YtbfbidifodcedaaDoorW.PrintLast
set_option linter.unusedVariables false
set_option linter.unusedSimpArgs false

theorem OriginCases : ∀ (a0 : ByteArray) (a1 : Int), a0.size ≤ 140737488351232 → (Lit.int .u64 a1).wf = true → ∃ k, lockkeeperlaw3_OriginCases.f k a0 a1 = some true := by
  intro s bits h0 hb
  refine Ev.rounds (g := fun k => lockkeeperlaw3_OriginCases.f k s bits) ?_
  unfold lockkeeperlaw3_OriginCases.f
  refine Ev.bind (long_ev 700 [s] (by omega) (by omega) (by simp)) ?_
  cases hL : longS 700 [s] with
  | true => exact evPos rfl (Ev.bind awake3_ev (Ev.now _))
  | false =>
    have hs := longS_size _ _ hL s (by simp)
    have hf := flip_size s bits
    have e : parseS (flipS s bits) = parseS s := by
      unfold parseS
      rw [flip_lowB, hf]
    have hz := parse_sizes s (by omega)
    refine evNeg (by decide) (Ev.bind (parse_ev s (by omega)) (evBind (flip_f s bits (by omega) hb) (Ev.bind (evEq (parse_ev (flipS s bits) (by omega)) e) (evPos (by simp) (evPos rfl (Ev.bind (chk_ev _ _ _ hz.2) (evPos ?_ (Ev.bind awake3_ev (Ev.now _)))))))))
    rw [parse_code s]
    simp
end Go.Proofs.YtbfbidifodcedaaDoor.Pure
