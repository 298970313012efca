
/- slices.Contains at texts. -/
import Derived.Test.YtfmajangcbgooaaGreatDoorG2
namespace Go.Proofs.YtfmajangcbgooaaGreatDoor.Pr
open Go.RowKit Go.Proofs.YtfmajangcbgooaaGreatDoorW.PrintWords Go.Proofs.YtfmajangcbgooaaGreatDoorW.PrintLast Go.Proofs.YtfmajangcbgooaaGreatDoorW.PrintMore
set_option linter.unusedVariables false
set_option linter.unusedSimpArgs false

def slices_Contains_string_string.f (l0 : List ByteArray) (a1 : ByteArray) : Option Bool := if l0.length ≤ 9223372036854775807 then some (Lib.containsS l0 a1) else none
theorem slices_Contains_string_string.calls (A0 : Option Addr) (c0 : Nat) (l0 : List ByteArray) (a1 : ByteArray) (r : Bool) (w : World) (hr0 : Kd.C Kd.string w A0 l0.length l0) (hc0 : l0.length ≤ c0) (h : slices_Contains_string_string.f l0 a1 = some r) :
    Calls Tryz.prog 130 #[.slice A0 l0.length c0, .string a1] w fun e w' => e = .returned (.bool r) ∧ Drawn0 w w' := by
  unfold slices_Contains_string_string.f at h
  split at h
  case isFalse => cases h
  rename_i hlen
  obtain rfl := Option.some.inj h
  rcases Nat.eq_zero_or_pos l0.length with h0 | h0
  · rw [h0]
    refine (Tryz.slices_Contains_string_empty A0 c0 a1 w).mono ?_
    rintro e w' ⟨rfl, rfl⟩
    obtain rfl := List.eq_nil_of_length_eq_zero h0
    exact ⟨rfl, Drawn0.refl _⟩
  · obtain ⟨bk, o, rfl, hbk, hcells⟩ := cells_of_strs hr0 h0
    refine (Tryz.slices_Contains_string bk o l0.length c0 l0 a1 w (Nat.le_refl _) hlen (fun j hj => hcells j _ (by simp [List.getD_eq_getElem?_getD, List.getElem?_eq_getElem hj]))).mono ?_
    rintro e w' ⟨rfl, rfl⟩
    rw [List.take_length]
    exact ⟨rfl, Drawn0.refl _⟩
end Go.Proofs.YtfmajangcbgooaaGreatDoor.Pr
