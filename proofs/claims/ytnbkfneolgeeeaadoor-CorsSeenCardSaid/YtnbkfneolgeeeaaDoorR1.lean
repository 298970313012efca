/- How this seat's structs are opened as arguments. -/
import Derived.Test.YtnbkfneolgeeeaaDoorR0
import Derived.Test.YtnbkfneolgeeeaaDoorPr0
import Derived.KernelRfl
namespace Go.Proofs.YtnbkfneolgeeeaaDoor.Pr
open Go.RowKit Go.Proofs.YtnbkfneolgeeeaaDoorW.PrintWords
set_option linter.unusedVariables false

def bT35 (x : S35) : Prop := x.f0.size ≤ maxLen ∧ x.f1.size ≤ maxLen
theorem opnT35 : Opn Tryd.prog 35 k35 bT35 :=
  Opn.mono (opn_iso (opn_struct Tryd.underlying35 (by kernel_rfl) (seg_cons (n := 1) (m := 1) rfl (by kernel_rfl) (by decide) (opn_string Tryd.underlying9) (seg_one rfl (by kernel_rfl) (opn_string Tryd.underlying9)))) (fun x : S35 => (x.f0, x.f1)) (fun v => ⟨v.1, v.2⟩) (fun _ => rfl)) (fun _ h => h)
end Go.Proofs.YtnbkfneolgeeeaaDoor.Pr
