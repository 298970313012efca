/- An array of texts, read at a place. -/
import Derived.Test.YtojcceafgkdchaaPr0
import Derived.ChangeKeysEq
namespace Go.Proofs.Ytojcceafgkdchaa.Pr
open Go.RowKit Go.Proofs.YtojcceafgkdchaaW.PrintWords Go.Proofs.YtojcceafgkdchaaW.PrintLast
theorem XA.arr_at {P : Program} {t e : TypeId} (n : Nat) (l : List ByteArray) (ht : P.underlying t = some (.array n e)) (he : P.underlying e = some .string) (hs : P.cellsOf e = 1) (hl : l.length = n) (vs : Array Value) (hv : vs = (l.map Value.string).toArray) (j : Int) (h0 : 0 ≤ j) (h1 : j < (n : Int)) :
    ∀ w : World, (Instr.index t (.agg vs) (.int .i64 j)).run P w = .ok (.string (rdOf ByteArray.empty l j)) w := by
  intro w
  subst hv
  have hj : j.toNat < l.length := by omega
  have hz : ∃ i, P.info? e = some i := by
    unfold Program.underlying at he
    cases hi : P.info? e with
    | none => simp [hi] at he
    | some i => exact ⟨i, rfl⟩
  obtain ⟨i, hi⟩ := hz
  simp [Instr.index, run_underlying ht, asIntOf, h0, h1, run_sizeOf w hi, hs, part, isAgg, run_underlying he, go_sem, rdOf, List.getD_eq_getElem?_getD, hj]
end Go.Proofs.Ytojcceafgkdchaa.Pr
