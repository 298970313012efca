
/- cors.Seen's closure, and slices.ContainsFunc over it: walked by hand. -/
import Derived.Test.YtnbkfneolgeeeaaDoorG2
import Derived.BigCall
import Derived.BigGuard
import Derived.Test.YtnbkfneolgeeeaaDoorPr2
namespace Go.Proofs.YtnbkfneolgeeeaaDoor.Pr
open Go.RowKit Go.Proofs.YtnbkfneolgeeeaaDoorW.PrintWords Go.Proofs.YtnbkfneolgeeeaaDoorW.PrintLast Go.Proofs.YtnbkfneolgeeeaaDoorW.PrintMore
set_option linter.unusedVariables false
set_option linter.unusedSimpArgs false

def foldGo (t : ByteArray) : List ByteArray → Option Bool
  | [] => some false
  | s :: r => (octet_Fold.f s t).bind fun b => if b = true then some true else foldGo t r
theorem seenFn_calls (s t : ByteArray) (r : Bool) (g : Nat) (w : World) (hx : w.cell? ⟨g, 0, none⟩ = some (.string t)) (h : octet_Fold.f s t = some r) :
    Calls Tryd.prog 30 #[.string s, .pointer (some ⟨g, 0, none⟩)] w fun e w' => e = .returned (.bool r) ∧ Below w.heap.size w w' := by
  have HT := Aside0.mk h
  clear h
  go_enter Tryd.func30, Tryd.ntmps30
  go_wp2_with (go_at_call 15; refine (octet_Fold.calls s t r _ HT.out).mono ?_; rintro e w2 ⟨rfl, hb⟩; have HB2 := Aside0.mk hb; clear hb)
  go_ret
  exact ⟨rfl, HB2.out⟩
set_option maxHeartbeats 8000000 in
set_option maxRecDepth 100000 in
theorem indexFn_calls (A0 : Option Addr) (c0 : Nat) (l0 : List ByteArray) (t : ByteArray) (g : Nat) (r : Bool) (w : World) (hr0 : Kd.C Kd.string w A0 l0.length l0) (v : ByteArray) (T : TypeId) (hk : w.heap[g]? = some (.cells #[.string t, .string v] T (0, 0))) (hl : l0.length ≤ 9223372036854775807) (h : foldGo t l0 = some r) :
    Calls Tryd.prog 53 #[.slice A0 l0.length c0, .func (.func 30) #[] #[.pointer (some ⟨g, 0, none⟩)]] w fun e w' => ∃ i : Int, e = .returned (.int .i64 i) ∧ decide (0 ≤ i) = r ∧ Below w.heap.size w w' := by
  have HR := Aside0.mk hr0
  have HX := Aside0.mk ((blk_cell hk 0).trans rfl : w.cell? ⟨g, 0, none⟩ = some (.string t))
  have HL := Aside0.mk (blk_lt hk)
  have HH := Aside0.mk h
  clear hr0 hk h
  go_enter Tryd.func53, Tryd.ntmps53
  go_wp2
  go_loopg [5, 8] l0.length (fun gg _ s8 wr => ∃ i : Nat, i ≤ l0.length ∧ l0.length - i ≤ gg ∧ s8 = .int .i64 i ∧ Aside0 (foldGo t (l0.drop i) = some r) ∧ Aside0 (Below w.heap.size w wr))
  case atStart => exact ⟨0, Nat.zero_le _, by omega, rfl, ⟨by rw [List.drop_zero]; exact HH.out⟩, ⟨by repeat (first | exact Below.refl _ _ | apply pw_below_drewN | apply below_drew1)⟩⟩
  case round =>
    clear HH
    obtain ⟨i, hi, hg, rfl, HE, HB⟩ := hrel
    by_cases hlt : i < l0.length
    · have hE := HE.out
      rw [List.drop_eq_getElem_cons hlt, foldGo] at hE
      have hc := Kd.at_string (Kd.C_below HR.out HB.out) (i : Int) (by omega) (by omega)
      have hy : rdOf ByteArray.empty l0 (i : Int) = l0[i] := by simp [rdOf, List.getD_eq_getElem?_getD, List.getElem?_eq_getElem hlt]
      rw [hy] at hc
      generalize l0[i] = y at hE hc
      clear hy
      obtain ⟨ad, e0, hcell⟩ := hc
      cases e0
      rw [Int.toNat_natCast] at hcell
      obtain ⟨b, hb, hE⟩ := Option.bind_eq_some_iff.mp hE
      have hx2 : wr.cell? ⟨g, 0, none⟩ = some (.string t) := (HB.out.cell (p := ⟨g, 0, none⟩) HL.out).trans HX.out
      have HF := Aside0.mk hb
      have HX2 := Aside0.mk hx2
      have c5 : decide ((i : Int) < (l0.length : Int)) = true := decide_eq_true (by omega)
      have c6 : (0 : Int) ≤ (i : Int) := by omega
      have c7 : (i : Int) < (l0.length : Int) := by omega
      clear hb HE hx2
      cases b with
      | true =>
        obtain rfl : true = r := Option.some.inj (show some true = some r from hE)
        clear hE
        go_wp2_with (go_at_call 30; refine (seenFn_calls y t true g _ HX2.out HF.out).mono ?_; rintro e w2 ⟨rfl, hb⟩; have HB2 := Aside0.mk hb; clear hb)
        go_ret
        exact ⟨_, rfl, by simp, below_step HB.out HB2.out⟩
      | false =>
        rw [if_neg (by decide)] at hE
        have HN := Aside0.mk hE
        clear hE
        go_wp2_with (go_at_call 30; refine (seenFn_calls y t false g _ HX2.out HF.out).mono ?_; rintro e w2 ⟨rfl, hb⟩; have HB2 := Aside0.mk hb; clear hb)
        go_roundg (l0.length - (i + 1))
        case measure => omega
        case rel => exact ⟨i + 1, by omega, by omega, by go_num, HN, ⟨below_step HB.out HB2.out⟩⟩
    · have hE := HE.out
      rw [List.drop_of_length_le (by omega), foldGo] at hE
      obtain rfl := Option.some.inj hE
      have c5 : decide ((i : Int) < (l0.length : Int)) = false := decide_eq_false (by omega)
      clear hE HE
      go_wp2
      go_ret
      exact ⟨_, rfl, by simp, HB.out⟩
def slices_ContainsFunc.f (l0 : List ByteArray) (t : ByteArray) : Option Bool := if l0.length ≤ 9223372036854775807 then foldGo t l0 else none
theorem slices_ContainsFunc.calls (A0 : Option Addr) (c0 : Nat) (l0 : List ByteArray) (t v : ByteArray) (g : Nat) (T : TypeId) (r : Bool) (w : World) (hr0 : Kd.C Kd.string w A0 l0.length l0) (hc0 : l0.length ≤ c0) (hk : w.heap[g]? = some (.cells #[.string t, .string v] T (0, 0))) (h : slices_ContainsFunc.f l0 t = some r) :
    Calls Tryd.prog 29 #[.slice A0 l0.length c0, .func (.func 30) #[] #[.pointer (some ⟨g, 0, none⟩)]] w fun e w' => e = .returned (.bool r) ∧ Below w.heap.size w w' := by
  unfold slices_ContainsFunc.f at h
  split at h
  case isFalse => cases h
  rename_i hl
  have HC := Aside0.mk (indexFn_calls A0 c0 l0 t g r w hr0 v T hk hl h)
  clear hr0 hk h
  go_enter Tryd.func29, Tryd.ntmps29
  go_wp2_with (go_at_call 53; refine HC.out.mono ?_; rintro e w2 ⟨i, rfl, hd, hb⟩; have HB2 := Aside0.mk hb; have HD := Aside0.mk hd; clear hb hd)
  go_ret
  exact ⟨by rw [← HD.out]; simp, HB2.out⟩
end Go.Proofs.YtnbkfneolgeeeaaDoor.Pr
