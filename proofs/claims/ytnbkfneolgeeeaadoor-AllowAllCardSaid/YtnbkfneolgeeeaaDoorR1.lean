/- How this seat's structs are opened as arguments. -/
import Derived.Test.YtnbkfneolgeeeaaDoorR0
import Derived.Test.YtnbkfneolgeeeaaDoorPr0
import Derived.KernelRfl
namespace Go.Proofs.YtnbkfneolgeeeaaDoor.Pr
open Go.RowKit Go.Proofs.YtnbkfneolgeeeaaDoorW.PrintWords
set_option linter.unusedVariables false

def bT35 (x : S35) : Prop := x.f0.size ≤ maxLen ∧ x.f1.size ≤ maxLen
theorem opnT35 : Opn Tryd.prog 35 k35 bT35 :=
  Opn.mono (opn_iso (opn_struct Tryd.underlying35 (by kernel_rfl) (seg_cons (n := 1) (m := 1) rfl (by kernel_rfl) (by decide) (opn_string Tryd.underlying9) (seg_one rfl (by kernel_rfl) (opn_string Tryd.underlying9)))) (fun x : S35 => (x.f0, x.f1)) (fun v => ⟨v.1, v.2⟩) (fun _ => rfl)) (fun _ h => h)
structure S42 where
  f0 : List (ByteArray)
  f1 : List (ByteArray)
  f2 : Int
def k42 : Kd S42 := Kd.iso (Kd.pair (Kd.slice 9 Kd.string) (Kd.pair (Kd.slice 9 Kd.string) (Kd.int .u64))) (fun x : S42 => (x.f0, x.f1, x.f2))
def bT42 (x : S42) : Prop := (x.f0.length ≤ maxLen ∧ ∀ x_ ∈ x.f0, x_.size ≤ maxLen) ∧ (x.f1.length ≤ maxLen ∧ ∀ x_ ∈ x.f1, x_.size ≤ maxLen) ∧ (Lit.int .u64 x.f2).wf = true
theorem opnT42 : Opn Tryd.prog 42 k42 bT42 :=
  Opn.mono (opn_iso (opn_struct Tryd.underlying42 (by kernel_rfl) (seg_cons (n := 1) (m := 2) rfl (by kernel_rfl) (by decide) (opn_slice 9 Tryd.underlying39 (by kernel_rfl) (opn_string Tryd.underlying9)) (seg_cons (n := 1) (m := 1) rfl (by kernel_rfl) (by decide) (opn_slice 9 Tryd.underlying39 (by kernel_rfl) (opn_string Tryd.underlying9)) (seg_one rfl (by kernel_rfl) (opn_int Tryd.underlying40))))) (fun x : S42 => (x.f0, x.f1, x.f2)) (fun v => ⟨v.1, v.2.1, v.2.2⟩) (fun _ => rfl)) (fun _ h => h)
end Go.Proofs.YtnbkfneolgeeeaaDoor.Pr
