
/- What the variables of the library that are laid hold, kept over steps; strings.Cut at any separator, strconv.Itoa. -/
import Derived.Test.YtfmajangcbgooaaGreatDoorG2
import Derived.Shelf.Strings.Cut
import Derived.Shelf.Strconv.Itoa3
import Derived.Lib.LaidTab
namespace Go.Proofs.YtfmajangcbgooaaGreatDoor.Pr
open Go.RowKit Go.Proofs.YtfmajangcbgooaaGreatDoorW.PrintWords Go.Proofs.YtfmajangcbgooaaGreatDoorW.PrintLast Go.Proofs.YtfmajangcbgooaaGreatDoorW.PrintMore
set_option linter.unusedVariables false
set_option linter.unusedSimpArgs false

/-- internal/bytealg.MaxLen holds some int, internal/strconv.uint64pow10 its powers. -/
def LaidW (w : World) : Prop := (∃ m : Int, w.cell? ⟨0, 0, none⟩ = some (.int .i64 m)) ∧ Lib.TabIs Tryz.prog w "internal/strconv.uint64pow10" .u64 Lib.pow10Tab
theorem LaidW.below {w w' : World} (h : LaidW w) (hb : Below w.heap.size w w') : LaidW w' := by
  obtain ⟨⟨m, hm⟩, ht⟩ := h
  refine ⟨⟨m, (hb.cell (World.block_lt_of_cell? w _ hm)).trans hm⟩, ?_⟩
  unfold Lib.TabIs World.var? at ht ⊢
  rw [show Tryz.prog.globalNamed "internal/strconv.uint64pow10" = some 1 by kernel_rfl] at ht ⊢
  simp only [Option.bind_some] at ht ⊢
  have hlt : 1 < w.heap.size := by
    rcases Nat.lt_or_ge 1 w.heap.size with h' | h'
    · exact h'
    · rw [Array.getElem?_eq_none h'] at ht; cases ht
  rw [hb.block _ hlt]
  exact ht
theorem LaidW.alloc {w : World} (h : LaidW w) (o : Obj) : LaidW (w.alloc o) := h.below (below_alloc (Below.refl _ _) _)
theorem LaidW.drewN {w : World} (h : LaidW w) (n : Nat) : LaidW (w.drewN n) := h.below (pw_below_drewN (Below.refl _ _) n)
theorem LaidW.drew {w : World} (h : LaidW w) : LaidW w.drew := h.below (Below.refl _ _).drew

/-! ### strings.Cut -/
def cutS (a0 a1 : ByteArray) : ByteArray × ByteArray × Bool := (bsOf (Lib.cut a0.data.toList a1.data.toList).1, bsOf (Lib.cut a0.data.toList a1.data.toList).2.1, (Lib.cut a0.data.toList a1.data.toList).2.2)
def strings_Cut.f (a0 a1 : ByteArray) : Option (ByteArray × ByteArray × Bool) := if a0.size < 4294967281 then some (cutS a0 a1) else none
theorem strings_Cut.calls (a0 a1 : ByteArray) (r1 r2 : ByteArray) (r3 : Bool) (w : World) (hM_ : Aside0 (LaidW w)) (h : strings_Cut.f a0 a1 = some (r1, r2, r3)) :
    Calls Tryz.prog 90 #[.string a0, .string a1] w fun e w' => e = .returned (.tuple #[.string r1, .string r2, .bool r3]) ∧ Drawn0 w w' := by
  unfold strings_Cut.f at h
  split at h
  case isFalse => cases h
  rename_i hs
  have hr := Option.some.inj h
  obtain ⟨m, hm⟩ := hM_.out.1
  refine (Tryz.strings_Cut a0 a1 m w hs hm).mono ?_
  rintro e w' ⟨rfl, n, rfl⟩
  unfold cutS bsOf at hr
  injection hr with h1 h2
  injection h2 with h2 h3
  subst h1; subst h2; subst h3
  exact ⟨rfl, n, rfl⟩

/-! ### strconv.Itoa -/
def strconv_Itoa.f (a0 : Int) : Option ByteArray := if -9223372036854775808 ≤ a0 ∧ a0 ≤ 9223372036854775807 then some (bsOf (Lib.itoa a0)) else none
theorem strconv_Itoa.calls (a0 : Int) (r : ByteArray) (w : World) (hM_ : Aside0 (LaidW w)) (h : strconv_Itoa.f a0 = some r) :
    Calls Tryz.prog 124 #[.int .i64 a0] w fun e w' => e = .returned (.string r) ∧ Below w.heap.size w w' := by
  unfold strconv_Itoa.f at h
  split at h
  case isFalse => cases h
  rename_i hs
  obtain rfl := Option.some.inj h
  refine (Tryz.strconv_Itoa a0 hs.1 hs.2 w hM_.out.2).mono ?_
  rintro e w' ⟨rfl, k, os, rfl⟩
  exact ⟨rfl, rfl, rfl, rfl, by show w.heap.size ≤ (w.heap ++ os).size; rw [Array.size_append]; omega, fun j hj => by show (w.heap ++ os)[j]? = w.heap[j]?; exact Array.getElem?_append_left hj⟩
end Go.Proofs.YtfmajangcbgooaaGreatDoor.Pr
