
/- strings.Split at a separator of one byte. -/
import Derived.Test.YtfmajangcbgooaaGreatDoorG2
import Derived.Shelf.Strings.SplitCore
import Derived.Lib.SplitLaws
namespace Go.Proofs.YtfmajangcbgooaaGreatDoor.Pr
open Go.RowKit Go.Proofs.YtfmajangcbgooaaGreatDoorW.PrintWords Go.Proofs.YtfmajangcbgooaaGreatDoorW.PrintLast Go.Proofs.YtfmajangcbgooaaGreatDoorW.PrintMore
set_option linter.unusedVariables false
set_option linter.unusedSimpArgs false

theorem one_byte4 (s : ByteArray) (h : s.size = 1) : ∃ c, s = ⟨#[c]⟩ := by
  obtain ⟨⟨l⟩⟩ := s
  match l, h with
  | [c], _ => exact ⟨c, rfl⟩
def splitL (s sep : ByteArray) : List ByteArray := Lib.splitB sep 0 (Lib.countB s sep) s
theorem count_le_one (s : ByteArray) (c : UInt8) : Lib.countB s ⟨#[c]⟩ = Lib.countByte s.data.toList c := Lib.count_one c _
theorem gen_split1 (s : ByteArray) (c : UInt8) (w : World) (hs : s.size < 4294967281) :
    Calls Tryz.prog 180 #[.string s, .string ⟨#[c]⟩, .int .i64 0, .int .i64 (-1)] w fun e w' =>
      e = .returned (.slice (some ⟨w.heap.size, 0, none⟩) (splitL s ⟨#[c]⟩).length (Lib.countB s ⟨#[c]⟩ + 1)) ∧ w' = w.alloc (.cells (Lib.cellsOf (splitL s ⟨#[c]⟩) (Lib.countB s ⟨#[c]⟩ + 1)) 9) := by
  have hle := Lib.countB_le (⟨#[c]⟩ : ByteArray) (Nat.le_refl 1) s.size s (Nat.le_refl _)
  have hI : ∀ (x : ByteArray) (cs : Array Value), x.size ≤ s.size → Calls Tryz.prog 207 #[.string x, .string ⟨#[c]⟩] (w.alloc (.cells cs 9)) fun e w' => e = .returned (.int .i64 (Lib.indexB x ⟨#[c]⟩)) ∧ w' = w.alloc (.cells cs 9) := by
    intro x cs _
    have e : Lib.indexB x ⟨#[c]⟩ = Lib.indexByte x.data.toList c := Lib.index_one _ _
    rw [e]
    exact Tryz.strings_Index_one x c _
  have hC : Calls Tryz.prog 206 #[.string s, .string ⟨#[c]⟩] w fun e w' => e = .returned (.int .i64 (Lib.countB s ⟨#[c]⟩)) ∧ w' = w := by
    rw [count_le_one]
    exact Tryz.strings_Count_one s c w
  exact Any.strings_genSplit_core (P := Tryz.prog) Tryz.lays221 (by kernel_rfl) s ⟨#[c]⟩ 0 (-1) (Lib.countB s ⟨#[c]⟩ + 1) w hs (Nat.le_refl 1) (Nat.zero_le _) hI hC (by decide) (by decide) (by rw [if_pos (by decide)]; omega)
theorem splitL_length (s : ByteArray) (c : UInt8) : (splitL s ⟨#[c]⟩).length = Lib.countB s ⟨#[c]⟩ + 1 := Lib.splitB_all (⟨#[c]⟩ : ByteArray) (Nat.le_refl 1) 0 _ s rfl
set_option maxHeartbeats 1000000 in
theorem split1 (s : ByteArray) (c : UInt8) (w : World) (hs : s.size < 4294967281) :
    Calls Tryz.prog 142 #[.string s, .string ⟨#[c]⟩] w fun e w' =>
      e = .returned (.slice (some ⟨w.heap.size, 0, none⟩) (splitL s ⟨#[c]⟩).length (splitL s ⟨#[c]⟩).length) ∧ w' = w.alloc (.cells ((splitL s ⟨#[c]⟩).map Value.string).toArray 9) := by
  have hg := gen_split1 s c w hs
  rw [← splitL_length, Lib.cellsOf_full] at hg
  go_enter Tryz.func142, Tryz.ntmps142
  go_wp2_with (go_at_call 180; refine hg.mono ?_; rintro e w' ⟨rfl, hw⟩; rw [hw])
  go_ret
  exact ⟨rfl, rfl⟩
def strings_Split.f (a0 a1 : ByteArray) : Option (List ByteArray) := if a0.size < 4294967281 ∧ a1.size = 1 then some (splitL a0 a1) else none
theorem strings_Split.calls (a0 a1 : ByteArray) (r : List ByteArray) (w : World) (h : strings_Split.f a0 a1 = some r) :
    Calls Tryz.prog 142 #[.string a0, .string a1] w fun e w' => ∃ v0_ : Value, e = .returned (v0_) ∧ Kd.R Kd.string 9 w' w.heap.size (fun _ => True) v0_ r ∧ Below w.heap.size w w' := by
  unfold strings_Split.f at h
  split at h
  case isFalse => cases h
  rename_i hs
  obtain ⟨c, rfl⟩ := one_byte4 a1 hs.2
  obtain rfl := Option.some.inj h
  refine (split1 a0 c w hs.1).mono ?_
  rintro e w' ⟨rfl, rfl⟩
  refine ⟨_, rfl, ?_, ?_⟩
  · have hl := splitL_length a0 c
    have hc : Lib.countB a0 ⟨#[c]⟩ ≤ a0.size := Lib.countB_le (⟨#[c]⟩ : ByteArray) (Nat.le_refl 1) a0.size a0 (Nat.le_refl _)
    have ho := World.ownsRow_lit (base := w.heap.size) (e := 9) (size := 1) w ((splitL a0 ⟨#[c]⟩).map Value.string).toArray (splitL a0 ⟨#[c]⟩).length (Nat.le_refl _) (by unfold maxLen; omega) (by simp)
    refine Kd.R_of_own (h1 := fun _ => rfl) (xs := splitL a0 ⟨#[c]⟩) ?_ (fun _ _ => trivial)
    simpa [encs] using ho
  · exact below_alloc (Below.refl _ _) _
end Go.Proofs.YtfmajangcbgooaaGreatDoor.Pr
