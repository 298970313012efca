/- How this seat's structs are opened as arguments. -/
import Derived.Test.YtbfbidifodcedaaDoorR0
import Derived.Test.YtbfbidifodcedaaDoorPr0
import Derived.KernelRfl
namespace Go.Proofs.YtbfbidifodcedaaDoor.Pr
open Go.RowKit Go.Proofs.YtbfbidifodcedaaDoorW.PrintWords
set_option linter.unusedVariables false

structure S23 where
  f0 : ByteArray
  f1 : ByteArray
  f2 : Int
def k23 : Kd S23 := Kd.iso (Kd.pair Kd.string (Kd.pair Kd.string (Kd.int .i64))) (fun x : S23 => (x.f0, x.f1, x.f2))
theorem k23_open {w : World} {x : S23} {cs : List Value} (h : k23.K w x cs) : cs = [.string x.f0, .string x.f1, .int .i64 x.f2] := by
  obtain ⟨_, _, rfl, rfl, _, _, rfl, rfl, rfl⟩ := h
  exact rfl
def bT23 (x : S23) : Prop := x.f0.size ≤ maxLen ∧ x.f1.size ≤ maxLen ∧ (Lit.int .i64 x.f2).wf = true
theorem opnT23 : Opn Tryd.prog 23 k23 bT23 :=
  Opn.mono (opn_iso (opn_struct Tryd.underlying23 (by kernel_rfl) (seg_cons (n := 1) (m := 2) rfl (by kernel_rfl) (by decide) (opn_string Tryd.underlying9) (seg_cons (n := 1) (m := 1) rfl (by kernel_rfl) (by decide) (opn_string Tryd.underlying9) (seg_one rfl (by kernel_rfl) (opn_int Tryd.underlying3))))) (fun x : S23 => (x.f0, x.f1, x.f2)) (fun v => ⟨v.1, v.2.1, v.2.2⟩) (fun _ => rfl)) (fun _ h => h)
structure S44 where
  f0 : S23
  f1 : ByteArray
  f2 : ByteArray
def k44 : Kd S44 := Kd.iso (Kd.pair k23 (Kd.pair Kd.string Kd.string)) (fun x : S44 => (x.f0, x.f1, x.f2))
theorem k44_open {w : World} {x : S44} {cs : List Value} (h : k44.K w x cs) : cs = [.string x.f0.f0, .string x.f0.f1, .int .i64 x.f0.f2, .string x.f1, .string x.f2] := by
  obtain ⟨_, _, rfl, h0, _, _, rfl, rfl, rfl⟩ := h
  obtain rfl := k23_open h0
  exact rfl
def bT44 (x : S44) : Prop := bT23 x.f0 ∧ x.f1.size ≤ maxLen ∧ x.f2.size ≤ maxLen
theorem opnT44 : Opn Tryd.prog 44 k44 bT44 :=
  Opn.mono (opn_iso (opn_struct Tryd.underlying44 (by kernel_rfl) (seg_cons (n := 3) (m := 2) rfl (by kernel_rfl) (by decide) opnT23 (seg_cons (n := 1) (m := 1) rfl (by kernel_rfl) (by decide) (opn_string Tryd.underlying9) (seg_one rfl (by kernel_rfl) (opn_string Tryd.underlying9))))) (fun x : S44 => (x.f0, x.f1, x.f2)) (fun v => ⟨v.1, v.2.1, v.2.2⟩) (fun _ => rfl)) (fun _ h => h)
end Go.Proofs.YtbfbidifodcedaaDoor.Pr
