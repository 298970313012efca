/- How this seat's structs are opened as arguments. -/
import Derived.Test.YtojcceafgkdchaaR0
import Derived.Test.YtojcceafgkdchaaPr0
import Derived.KernelRfl
namespace Go.Proofs.Ytojcceafgkdchaa.Pr
open Go.RowKit Go.Proofs.YtojcceafgkdchaaW.PrintWords
set_option linter.unusedVariables false

def bT26 (x : S26) : Prop := x.f0.size ≤ maxLen ∧ x.f1.size ≤ maxLen
theorem opnT26 : Opn Try.prog 26 k26 bT26 :=
  Opn.mono (opn_iso (opn_struct Try.underlying26 (by kernel_rfl) (seg_cons (n := 1) (m := 1) rfl (by kernel_rfl) (by decide) (opn_string Try.underlying9) (seg_one rfl (by kernel_rfl) (opn_string Try.underlying9)))) (fun x : S26 => (x.f0, x.f1)) (fun v => ⟨v.1, v.2⟩) (fun _ => rfl)) (fun _ h => h)
end Go.Proofs.Ytojcceafgkdchaa.Pr
