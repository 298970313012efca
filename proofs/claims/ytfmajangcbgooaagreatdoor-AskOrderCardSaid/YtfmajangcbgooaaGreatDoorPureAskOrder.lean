
/- The law AskOrder tells true for every input. -/
import Derived.Test.YtfmajangcbgooaaGreatDoorR1
import Derived.Test.YtfmajangcbgooaaGreatDoorPr90
import Derived.KernelRfl
namespace Go.Proofs.YtfmajangcbgooaaGreatDoor.Pure
open Go.RowKit Go.Proofs.YtfmajangcbgooaaGreatDoor.Pr Go.Proofs.YtfmajangcbgooaaGreatDoorW.PrintWords Go.Proofs.YtfmajangcbgooaaGreatDoorW.PrintLast
set_option linter.unusedVariables false
set_option linter.unusedSimpArgs false

theorem low9_f (x : Int) : ∃ n, lockkeeperlaw0_Low.f x 9 = some n := by
  unfold lockkeeperlaw0_Low.f
  rw [if_neg (by decide)]
  exact ⟨_, rfl⟩
theorem AskOrder : ∀ (a0 : Int), (Lit.int .i64 a0).wf = true → ∃ k, lockkeeperlaw8_AskOrder.f k a0 = some true := by
  intro a0 _
  refine ⟨200, ?_⟩
  obtain ⟨n, e⟩ := low9_f a0
  unfold lockkeeperlaw8_AskOrder.f
  rw [e]
  rcases low9 e with rfl | rfl | rfl | rfl | rfl | rfl | rfl | rfl | rfl
  all_goals kernel_rfl
end Go.Proofs.YtfmajangcbgooaaGreatDoor.Pure
