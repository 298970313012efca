/- How this seat's structs are opened as arguments. -/
import Derived.Test.YtfmajangcbgooaaGreatDoorR0
import Derived.Test.YtfmajangcbgooaaGreatDoorPr0
import Derived.KernelRfl
namespace Go.Proofs.YtfmajangcbgooaaGreatDoor.Pr
open Go.RowKit Go.Proofs.YtfmajangcbgooaaGreatDoorW.PrintWords
set_option linter.unusedVariables false

def bT28 (x : S28) : Prop := x.f0.size ≤ maxLen ∧ x.f1.size ≤ maxLen
theorem opnT28 : Opn Tryz.prog 28 k28 bT28 :=
  Opn.mono (opn_iso (opn_struct Tryz.underlying28 (by kernel_rfl) (seg_cons (n := 1) (m := 1) rfl (by kernel_rfl) (by decide) (opn_string Tryz.underlying9) (seg_one rfl (by kernel_rfl) (opn_string Tryz.underlying9)))) (fun x : S28 => (x.f0, x.f1)) (fun v => ⟨v.1, v.2⟩) (fun _ => rfl)) (fun _ h => h)
structure S26 where
  f0 : ByteArray
  f1 : ByteArray
  f2 : ByteArray
  f3 : Int
  f4 : Bool
  f5 : List (S28)
  f6 : Int
  f7 : Int
  f8 : Int
  f9 : Int
def k26 : Kd S26 := Kd.iso (Kd.pair Kd.string (Kd.pair Kd.string (Kd.pair Kd.string (Kd.pair (Kd.int .i64) (Kd.pair Kd.bool (Kd.pair (Kd.slice 28 k28) (Kd.pair (Kd.int .i64) (Kd.pair (Kd.int .u64) (Kd.pair (Kd.int .i64) (Kd.int .i64)))))))))) (fun x : S26 => (x.f0, x.f1, x.f2, x.f3, x.f4, x.f5, x.f6, x.f7, x.f8, x.f9))
def bT26 (x : S26) : Prop := x.f0.size ≤ maxLen ∧ x.f1.size ≤ maxLen ∧ x.f2.size ≤ maxLen ∧ (Lit.int .i64 x.f3).wf = true ∧ True ∧ (x.f5.length ≤ maxLen ∧ ∀ x_ ∈ x.f5, bT28 x_) ∧ (Lit.int .i64 x.f6).wf = true ∧ (Lit.int .u64 x.f7).wf = true ∧ (Lit.int .i64 x.f8).wf = true ∧ (Lit.int .i64 x.f9).wf = true
theorem opnT26 : Opn Tryz.prog 26 k26 bT26 :=
  Opn.mono (opn_iso (opn_struct Tryz.underlying26 (by kernel_rfl) (seg_cons (n := 1) (m := 9) rfl (by kernel_rfl) (by decide) (opn_string Tryz.underlying9) (seg_cons (n := 1) (m := 8) rfl (by kernel_rfl) (by decide) (opn_string Tryz.underlying9) (seg_cons (n := 1) (m := 7) rfl (by kernel_rfl) (by decide) (opn_string Tryz.underlying9) (seg_cons (n := 1) (m := 6) rfl (by kernel_rfl) (by decide) (opn_int Tryz.underlying3) (seg_cons (n := 1) (m := 5) rfl (by kernel_rfl) (by decide) (opn_bool Tryz.underlying4) (seg_cons (n := 1) (m := 4) rfl (by kernel_rfl) (by decide) (opn_slice 28 Tryz.underlying23 (by kernel_rfl) opnT28) (seg_cons (n := 1) (m := 3) rfl (by kernel_rfl) (by decide) (opn_int Tryz.underlying3) (seg_cons (n := 1) (m := 2) rfl (by kernel_rfl) (by decide) (opn_int Tryz.underlying24) (seg_cons (n := 1) (m := 1) rfl (by kernel_rfl) (by decide) (opn_int Tryz.underlying3) (seg_one rfl (by kernel_rfl) (opn_int Tryz.underlying3)))))))))))) (fun x : S26 => (x.f0, x.f1, x.f2, x.f3, x.f4, x.f5, x.f6, x.f7, x.f8, x.f9)) (fun v => ⟨v.1, v.2.1, v.2.2.1, v.2.2.2.1, v.2.2.2.2.1, v.2.2.2.2.2.1, v.2.2.2.2.2.2.1, v.2.2.2.2.2.2.2.1, v.2.2.2.2.2.2.2.2.1, v.2.2.2.2.2.2.2.2.2⟩) (fun _ => rfl)) (fun _ h => h)
end Go.Proofs.YtfmajangcbgooaaGreatDoor.Pr
