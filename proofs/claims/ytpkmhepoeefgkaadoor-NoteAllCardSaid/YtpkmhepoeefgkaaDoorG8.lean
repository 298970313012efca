
/- note.Name: walked by hand. -/
import Derived.Test.YtpkmhepoeefgkaaDoorG2
import Derived.BigCall
import Derived.BigGuard
namespace Go.Proofs.YtpkmhepoeefgkaaDoor.Pr
open Go.RowKit Go.Proofs.YtpkmhepoeefgkaaDoorW.PrintWords Go.Proofs.YtpkmhepoeefgkaaDoorW.PrintLast Go.Proofs.YtpkmhepoeefgkaaDoorW.PrintMore
set_option linter.unusedVariables false
set_option linter.unusedSimpArgs false

def evNames : List ByteArray := [(⟨#[97, 99, 99, 101, 112, 116]⟩ : ByteArray), (⟨#[111, 112, 101, 110]⟩ : ByteArray), (⟨#[104, 111, 108, 100]⟩ : ByteArray), (⟨#[112, 114, 101]⟩ : ByteArray), (⟨#[103, 114, 97, 110, 116]⟩ : ByteArray), (⟨#[99, 108, 101, 97, 114]⟩ : ByteArray), (⟨#[100, 114, 111, 112]⟩ : ByteArray), (⟨#[103, 111]⟩ : ByteArray), (⟨#[104, 101, 97, 100]⟩ : ByteArray), (⟨#[99, 104, 117, 110, 107]⟩ : ByteArray), (⟨#[112, 97, 117, 115, 101]⟩ : ByteArray), (⟨#[114, 101, 115, 117, 109, 101]⟩ : ByteArray), (⟨#[116, 97, 105, 108]⟩ : ByteArray), (⟨#[100, 111, 110, 101]⟩ : ByteArray), (⟨#[110, 101, 116]⟩ : ByteArray), (⟨#[99, 111, 114, 115]⟩ : ByteArray), (⟨#[97, 98, 111, 114, 116]⟩ : ByteArray), (⟨#[116, 105, 109, 101]⟩ : ByteArray)]
def note_Name.f (a0 : Int) : Option ByteArray := some (if 1 ≤ a0 ∧ a0 ≤ 18 then rdOf ByteArray.empty evNames (a0 - 1) else ⟨#[]⟩)
theorem evNames_at : ∀ j : Nat, j < 18 → (evNames.map Value.string)[j]? = some (.string (rdOf ByteArray.empty evNames (j : Int)))
  | 0, _ => rfl
  | 1, _ => rfl
  | 2, _ => rfl
  | 3, _ => rfl
  | 4, _ => rfl
  | 5, _ => rfl
  | 6, _ => rfl
  | 7, _ => rfl
  | 8, _ => rfl
  | 9, _ => rfl
  | 10, _ => rfl
  | 11, _ => rfl
  | 12, _ => rfl
  | 13, _ => rfl
  | 14, _ => rfl
  | 15, _ => rfl
  | 16, _ => rfl
  | 17, _ => rfl
  | n + 18, h => absurd h (by omega)
set_option maxHeartbeats 8000000 in
set_option maxRecDepth 100000 in
theorem note_Name.calls (a0 : Int) (r : ByteArray) (w : World) (h : note_Name.f a0 = some r) :
    Calls Tryd.prog 20 #[.int .i64 a0] w fun e w' => e = .returned (.string r) ∧ Below w.heap.size w w' := by
  unfold note_Name.f at h
  obtain rfl := Option.some.inj h
  clear h
  by_cases h1 : 1 ≤ a0 ∧ a0 ≤ 18
  · rw [if_pos h1]
    obtain ⟨j, hj, rfl⟩ : ∃ j : Nat, j < 18 ∧ a0 = (j : Int) + 1 := ⟨(a0 - 1).toNat, by omega, by omega⟩
    have c1 : decide ((j : Int) + 1 < 1) = false := decide_eq_false (by omega)
    have c2 : decide ((j : Int) + 1 > 18) = false := decide_eq_false (by omega)
    have c3 : wrap64 ((j : Int) + 1 - 1) = (j : Int) := by unfold wrap64; omega
    have c4 : (j : Int) + 1 - 1 = (j : Int) := by omega
    have c5 : decide ((j : Int) < 18) = true := decide_eq_true (by omega)
    have c6 : (0 : Int) ≤ (j : Int) := by omega
    have c7 : (j : Int) < 18 := by omega
    have HN := Aside0.mk (evNames_at j hj)
    clear h1
    go_enter Tryd.func20, Tryd.ntmps20
    go_wp2
    go_ret
    refine ⟨?_, below_alloc (Below.refl _ _) _⟩
    rw [c4]
    exact congrArg Ending.returned (Option.some.inj ((List.getElem?_eq_getElem (l := evNames.map Value.string) (show j < (evNames.map Value.string).length from hj)).symm.trans HN.out))
  · rw [if_neg h1]
    by_cases h2 : a0 < 1
    · clear h1
      go_enter Tryd.func20, Tryd.ntmps20
      go_wp2
      go_ret
      exact ⟨rfl, below_alloc (Below.refl _ _) _⟩
    · have h3 : 18 < a0 := by omega
      clear h1
      go_enter Tryd.func20, Tryd.ntmps20
      go_wp2
      go_ret
      exact ⟨rfl, below_alloc (Below.refl _ _) _⟩
end Go.Proofs.YtpkmhepoeefgkaaDoor.Pr
