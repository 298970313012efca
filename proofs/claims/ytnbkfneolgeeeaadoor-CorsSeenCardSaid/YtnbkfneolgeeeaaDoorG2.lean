import Derived.Test.YtnbkfneolgeeeaaDoorProg
import Derived.Below
import Derived.Deep.Draws
import Derived.Deep.AppendLies
import Derived.Maps.AppendAt
import Derived.OwnWalk
import Derived.Laws.BytesArg
import Derived.Laws.MakeOwn
import Derived.Laws.OwnMore
import Derived.Deep.OwnRows
import Derived.Tactics
import Derived.Lib.ConvBytes
import Derived.Laws.Slices
import Derived.WalkKit
import Derived.KernelRfl
import Derived.RowKit3
import Derived.Deep.LoopGhost
import Derived.Deep.QuietTactic
import Derived.BigQuiet
import Derived.WideLaws
import Derived.Deep.DeepCutAuto
import Derived.Deep.CutBlock
import Derived.Deep.RegionHeld3
import Derived.Laws.Rows
import Derived.Lib.AppendStr
import Derived.ArgAppend
import Derived.Laws.IdiomCopy
import Derived.OrdersHeld
import Derived.Laws.BitsLemmas
import Derived.RowKit
import Derived.Test.YtnbkfneolgeeeaaDoorWWords
import Derived.Test.YtnbkfneolgeeeaaDoorWLast
import Derived.Test.YtnbkfneolgeeeaaDoorWTab
import Derived.Test.YtnbkfneolgeeeaaDoorWFour
import Derived.Test.YtnbkfneolgeeeaaDoorWQPut
import Derived.Test.YtnbkfneolgeeeaaDoorWApart
import Derived.Test.YtnbkfneolgeeeaaDoorWArr
import Derived.Test.YtnbkfneolgeeeaaDoorWZeros
import Derived.Test.YtnbkfneolgeeeaaDoorWFoot
import Derived.Test.YtnbkfneolgeeeaaDoorWKept
import Derived.Test.YtnbkfneolgeeeaaDoorWShare
import Derived.Test.YtnbkfneolgeeeaaDoorWN
import Derived.Test.YtnbkfneolgeeeaaDoorWFootNe
import Derived.Test.YtnbkfneolgeeeaaDoorWAt
import Derived.Test.YtnbkfneolgeeeaaDoorWEqStruct
import Derived.Test.YtnbkfneolgeeeaaDoorWRepsOne
import Derived.Test.YtnbkfneolgeeeaaDoorWInv
import Derived.Test.YtnbkfneolgeeeaaDoorWInvWords
import Derived.Test.YtnbkfneolgeeeaaDoorWGuard
import Derived.Test.YtnbkfneolgeeeaaDoorWNEv
import Derived.Test.YtnbkfneolgeeeaaDoorWMore
import Derived.Test.YtnbkfneolgeeeaaDoorShelf
import Derived.Test.YtnbkfneolgeeeaaDoorG1
import Derived.RegionTactic
import Derived.Lib.CutLaws
import Derived.Lib.IndexBytes
import Derived.Sort.OwnSorted
namespace Go.Proofs.YtnbkfneolgeeeaaDoor.Pr
open Go.RowKit Go.Proofs.YtnbkfneolgeeeaaDoorW.PrintWords Go.Proofs.YtnbkfneolgeeeaaDoorW.PrintLast Go.Proofs.YtnbkfneolgeeeaaDoorW.PrintMore
set_option linter.unusedVariables false
set_option linter.unusedSimpArgs false

def bsOf (l : List UInt8) : ByteArray := ⟨l.toArray⟩
theorem bsOf_data (l : List UInt8) : (bsOf l).data.toList = l := rfl
theorem bsOf_of (s : ByteArray) : bsOf s.data.toList = s := by
  cases s
  simp [bsOf]
def joinB (l : List ByteArray) (sep : ByteArray) : ByteArray := bsOf (Lib.join (l.map (·.data.toList)) sep.data.toList)

/-! ### strings.Join -/
def strings_Join.f (l0 : List ByteArray) (a1 : ByteArray) : Option ByteArray :=
  if l0.length ≤ 140737488355328 ∧ (Lib.join (l0.map (·.data.toList)) a1.data.toList).length ≤ 140737488355328 then some (joinB l0 a1) else none

theorem cells_of_strs {w : World} {A : Option Addr} {l : List ByteArray} (h : Kd.string.C w A l.length l) (hp : 0 < l.length) :
    ∃ bk o, A = some ⟨bk, o, none⟩ ∧ bk < w.heap.size ∧ ∀ (j : Nat) x, l[j]? = some x → w.cell? ⟨bk, o + j, none⟩ = some (.string x) := by
  obtain ⟨ad, rfl, hc⟩ := (Kd.reads_of_C (enc := Value.string) (d := ByteArray.empty) (h1 := fun _ => rfl) h).2.2 hp
  have h0 := hc 0 hp
  have hs : ad.spot = none := by
    have : ad.add 0 = ad := by simp [Addr.add]
    rw [this] at h0
    unfold World.cell? at h0
    split at h0
    · cases hs : ad.spot with
      | none => rfl
      | some x => rw [hs] at h0; cases h0
    · cases h0
  obtain ⟨bk, o, sp⟩ := ad
  cases hs
  have h0' := World.block_lt_of_cell? w _ h0
  refine ⟨bk, o, rfl, by simpa [Addr.add] using h0', fun j x hj => ?_⟩
  have hl : j < l.length := (List.getElem?_eq_some_iff.1 hj).1
  have := hc j hl
  rw [List.getD_eq_getElem?_getD, hj, Option.getD_some] at this
  by_cases e : j = 0
  · subst e; simpa [Addr.add] using this
  · simpa [Addr.add, e] using this

theorem strings_Join.calls (A0 : Option Addr) (c0 : Nat) (l0 : List ByteArray) (a1 : ByteArray) (r : ByteArray) (w : World) (hr0 : Kd.C Kd.string w A0 l0.length l0) (hc0 : l0.length ≤ c0) (h : strings_Join.f l0 a1 = some r) :
    Calls Tryd.prog 60 #[.slice A0 l0.length c0, .string a1] w fun e w' => e = .returned (.string r) ∧ Below w.heap.size w w' := by
  unfold strings_Join.f at h
  split at h
  case isFalse => cases h
  rename_i hlen
  obtain rfl := Option.some.inj h
  rcases Nat.eq_zero_or_pos l0.length with h0 | h0
  · rw [h0]
    refine (Tryd.strings_Join_none A0 c0 a1 w).mono ?_
    rintro e w' ⟨rfl, rfl⟩
    obtain rfl := List.eq_nil_of_length_eq_zero h0
    exact ⟨rfl, Below.refl _ _⟩
  · obtain ⟨bk, o, rfl, hbk, hcells⟩ := cells_of_strs hr0 h0
    exact (Tryd.strings_Join bk o c0 l0 a1 w hcells hbk hlen.1 hc0 hlen.2)



end Go.Proofs.YtnbkfneolgeeeaaDoor.Pr
