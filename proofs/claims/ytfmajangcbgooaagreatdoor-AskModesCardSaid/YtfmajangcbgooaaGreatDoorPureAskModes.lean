
/- The printed law AskModes tells true for every input. -/
import Derived.Test.YtfmajangcbgooaaGreatDoorR1
import Derived.KernelRfl
import Derived.Test.YtfmajangcbgooaaGreatDoorPr12
import Derived.Test.YtfmajangcbgooaaGreatDoorPr2
namespace Go.Proofs.YtfmajangcbgooaaGreatDoor.Pure
open Go.RowKit Go.Proofs.YtfmajangcbgooaaGreatDoor.Pr Go.Proofs.YtfmajangcbgooaaGreatDoorW.PrintWords Go.Proofs.YtfmajangcbgooaaGreatDoorW.PrintLast
set_option linter.unusedVariables false
set_option linter.unusedSimpArgs false

theorem low3 (x : Int) (h : (Lit.int .i64 x).wf = true) : lockkeeperlaw0_Low.f x 3 = some 0 ∨ lockkeeperlaw0_Low.f x 3 = some 1 ∨ lockkeeperlaw0_Low.f x 3 = some 2 := by
  unfold lockkeeperlaw0_Low.f
  have e : IntKind.u64.wrap 3 = 3 := by decide
  rw [e, if_neg (by decide)]
  have h1 : 0 ≤ IntKind.u64.wrap x := by rw [IntKind.wrap_u64]; omega
  generalize IntKind.u64.wrap x = y at h1
  rw [Int.tmod_eq_emod_of_nonneg h1]
  have h2 : wrap64 (y % 3) = y % 3 := by unfold wrap64; omega
  rw [h2]
  have h3 : y % 3 = 0 ∨ y % 3 = 1 ∨ y % 3 = 2 := by omega
  rcases h3 with e | e | e <;> rw [e] <;> simp
theorem AskModes : ∀ (a0 : Bool) (a1 : Int) (a2 : Bool) (a3 : Bool), (Lit.int .i64 a1).wf = true → ∃ k, lockkeeperlaw8_AskModes.f k a0 a1 a2 a3 = some true := by
  intro a0 a1 a2 a3 h
  refine ⟨200, ?_⟩
  unfold lockkeeperlaw8_AskModes.f
  rcases low3 a1 h with e | e | e <;> rw [e] <;> cases a0 <;> cases a2 <;> cases a3
  all_goals kernel_rfl
end Go.Proofs.YtfmajangcbgooaaGreatDoor.Pure
