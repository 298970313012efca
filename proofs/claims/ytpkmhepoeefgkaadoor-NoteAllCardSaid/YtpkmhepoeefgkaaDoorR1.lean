/- How this seat's structs are opened as arguments. -/
import Derived.Test.YtpkmhepoeefgkaaDoorR0
import Derived.Test.YtpkmhepoeefgkaaDoorPr0
import Derived.KernelRfl
namespace Go.Proofs.YtpkmhepoeefgkaaDoor.Pr
open Go.RowKit Go.Proofs.YtpkmhepoeefgkaaDoorW.PrintWords
set_option linter.unusedVariables false

def bT24 (x : S24) : Prop := (Lit.int .i64 x.f0).wf = true ∧ (Lit.int .u64 x.f1).wf = true ∧ (Lit.int .i64 x.f2).wf = true ∧ (Lit.int .i64 x.f3).wf = true ∧ (Lit.int .i64 x.f4).wf = true ∧ (Lit.int .i64 x.f5).wf = true ∧ (Lit.int .i64 x.f6).wf = true
theorem opnT24 : Opn Tryd.prog 24 k24 bT24 :=
  Opn.mono (opn_iso (opn_struct Tryd.underlying24 (by kernel_rfl) (seg_cons (n := 1) (m := 6) rfl (by kernel_rfl) (by decide) (opn_int Tryd.underlying3) (seg_cons (n := 1) (m := 5) rfl (by kernel_rfl) (by decide) (opn_int Tryd.underlying22) (seg_cons (n := 1) (m := 4) rfl (by kernel_rfl) (by decide) (opn_int Tryd.underlying3) (seg_cons (n := 1) (m := 3) rfl (by kernel_rfl) (by decide) (opn_int Tryd.underlying3) (seg_cons (n := 1) (m := 2) rfl (by kernel_rfl) (by decide) (opn_int Tryd.underlying3) (seg_cons (n := 1) (m := 1) rfl (by kernel_rfl) (by decide) (opn_int Tryd.underlying3) (seg_one rfl (by kernel_rfl) (opn_int Tryd.underlying3))))))))) (fun x : S24 => (x.f0, x.f1, x.f2, x.f3, x.f4, x.f5, x.f6)) (fun v => ⟨v.1, v.2.1, v.2.2.1, v.2.2.2.1, v.2.2.2.2.1, v.2.2.2.2.2.1, v.2.2.2.2.2.2⟩) (fun _ => rfl)) (fun _ h => h)
end Go.Proofs.YtpkmhepoeefgkaaDoor.Pr
