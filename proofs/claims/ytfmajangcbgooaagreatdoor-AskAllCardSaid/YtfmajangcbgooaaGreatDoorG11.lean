
/- lockkeeperref5.Norm: walked by hand. -/
import Derived.Test.YtfmajangcbgooaaGreatDoorG2
import Derived.BigCall
import Derived.BigGuard
import Derived.Test.YtfmajangcbgooaaGreatDoorPr16
namespace Go.Proofs.YtfmajangcbgooaaGreatDoor.Pr
open Go.RowKit Go.Proofs.YtfmajangcbgooaaGreatDoorW.PrintWords Go.Proofs.YtfmajangcbgooaaGreatDoorW.PrintLast Go.Proofs.YtfmajangcbgooaaGreatDoorW.PrintMore
set_option linter.unusedVariables false
set_option linter.unusedSimpArgs false

def r5Names : List ByteArray := [(⟨#[68, 69, 76, 69, 84, 69]⟩ : ByteArray), (⟨#[71, 69, 84]⟩ : ByteArray), (⟨#[72, 69, 65, 68]⟩ : ByteArray), (⟨#[79, 80, 84, 73, 79, 78, 83]⟩ : ByteArray), (⟨#[80, 79, 83, 84]⟩ : ByteArray), (⟨#[80, 85, 84]⟩ : ByteArray)]
def normGo (s : ByteArray) : List ByteArray → Option ByteArray
  | [] => some s
  | n :: r => (lockkeeperref1_Fold.f s n).bind fun b => if b = true then some n else normGo s r
def lockkeeperref5_Norm.f (a0 : ByteArray) : Option ByteArray := normGo a0 r5Names
theorem r5_cells (w : World) (T : TypeId) : ∀ j : Nat, (h : j < 6) → (w.alloc (.cells #[.string (⟨#[68, 69, 76, 69, 84, 69]⟩ : ByteArray), .string (⟨#[71, 69, 84]⟩ : ByteArray), .string (⟨#[72, 69, 65, 68]⟩ : ByteArray), .string (⟨#[79, 80, 84, 73, 79, 78, 83]⟩ : ByteArray), .string (⟨#[80, 79, 83, 84]⟩ : ByteArray), .string (⟨#[80, 85, 84]⟩ : ByteArray)] T)).cell? ⟨w.heap.size, j, none⟩ = some (.string (rdOf ByteArray.empty r5Names (j : Int)))
  | 0, _ | 1, _ | 2, _ | 3, _ | 4, _ | 5, _ => by simp [World.cell?_alloc_new]; rfl
  | n + 6, h => absurd h (by omega)
set_option maxHeartbeats 8000000 in
set_option maxRecDepth 100000 in
theorem lockkeeperref5_Norm.calls (a0 : ByteArray) (r : ByteArray) (w : World) (h : lockkeeperref5_Norm.f a0 = some r) :
    Calls Tryz.prog 61 #[.string a0] w fun e w' => e = .returned (.string r) ∧ Below w.heap.size w w' := by
  unfold lockkeeperref5_Norm.f at h
  have HH := Aside0.mk h
  clear h
  go_enter Tryz.func61, Tryz.ntmps61
  go_wp2
  go_loopw [4] (fun v4 wr => ∃ i : Nat, i ≤ 6 ∧ v4 = .int .i64 i ∧ Aside0 (normGo a0 (r5Names.drop i) = some r) ∧ Aside0 (∀ j : Nat, j < 6 → wr.cell? ⟨w.heap.size, j, none⟩ = some (.string (rdOf ByteArray.empty r5Names (j : Int)))) ∧ Aside0 (Below w.heap.size w wr) ∧ Aside0 (w.heap.size < wr.heap.size)) (fun v4 _ => 6 - (intOf v4).toNat)
  case atStart => exact ⟨0, by omega, rfl, ⟨by rw [List.drop_zero]; exact HH.out⟩, ⟨fun j hj => r5_cells w _ j hj⟩, ⟨below_alloc (Below.refl _ _) _⟩, ⟨by simp⟩⟩
  case round =>
    clear HH
    obtain ⟨i, hi, rfl, HE, HC, HB, HL⟩ := hrel
    by_cases hlt : i < 6
    · have hE := HE.out
      have hd : r5Names.drop i = rdOf ByteArray.empty r5Names (i : Int) :: r5Names.drop (i + 1) := by
        have hl : r5Names.length = 6 := rfl
        rw [List.drop_eq_getElem_cons (by omega)]
        simp [rdOf, List.getD_eq_getElem?_getD, List.getElem?_eq_getElem (show i < r5Names.length by omega)]
      rw [hd, normGo] at hE
      have hc := HC.out i hlt
      generalize rdOf ByteArray.empty r5Names (i : Int) = nm at hE hc hd
      obtain ⟨b, hb, hE⟩ := Option.bind_eq_some_iff.mp hE
      have c5 : decide ((i : Int) < 6) = true := decide_eq_true (by omega)
      have c6 : (0 : Int) ≤ (i : Int) := by omega
      have c7 : (i : Int) < 6 := by omega
      have HF := Aside0.mk hb
      clear hb hd HE
      cases b with
      | true =>
        obtain rfl := Option.some.inj (show some nm = some r from hE)
        clear hE
        go_wp2_with (go_at_call 118; refine (lockkeeperref1_Fold.calls _ _ true _ HF.out).mono ?_; rintro e w2 ⟨rfl, hd⟩; have hc2 : w2.cell? ⟨w.heap.size, i, none⟩ = some (.string nm) := (hd.cell HL.out).trans hc; have HD2 := Aside0.mk hd; clear hd)
        go_ret
        exact ⟨rfl, HB.out.trans (HD2.out.mono HB.out.size)⟩
      | false =>
        have HE := Aside0.mk (show normGo a0 (r5Names.drop (i + 1)) = some r from hE)
        clear hE
        go_wp2_with (go_at_call 118; refine (lockkeeperref1_Fold.calls _ _ false _ HF.out).mono ?_; rintro e w2 ⟨rfl, hd⟩; have HD2 := Aside0.mk hd; clear hd)
        exact ⟨⟨i + 1, by omega, by go_num, HE, ⟨fun j hj => (HD2.out.cell HL.out).trans (HC.out j hj)⟩, ⟨HB.out.trans (HD2.out.mono HB.out.size)⟩, ⟨Nat.lt_of_lt_of_le HL.out HD2.out.size⟩⟩, by simp [intOf]; omega⟩
    · have e : i = 6 := by omega
      subst e
      have hE := HE.out
      rw [show r5Names.drop 6 = [] from rfl, normGo] at hE
      obtain rfl := Option.some.inj hE
      clear hE HE
      go_wp2
      go_ret
      exact ⟨rfl, HB.out⟩
end Go.Proofs.YtfmajangcbgooaaGreatDoor.Pr
