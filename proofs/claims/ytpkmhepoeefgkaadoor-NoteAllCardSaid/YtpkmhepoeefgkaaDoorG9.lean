
/- note.Check, strconv.FormatUint at base 10: walked by hand. -/
import Derived.Test.YtpkmhepoeefgkaaDoorG5
import Derived.Test.YtpkmhepoeefgkaaDoorG8
import Derived.Lib.ItoaMem
import Derived.BigCall
import Derived.BigGuard
namespace Go.Proofs.YtpkmhepoeefgkaaDoor.Pr
open Go.RowKit Go.Proofs.YtpkmhepoeefgkaaDoorW.PrintWords Go.Proofs.YtpkmhepoeefgkaaDoorW.PrintLast Go.Proofs.YtpkmhepoeefgkaaDoorW.PrintMore
set_option linter.unusedVariables false
set_option linter.unusedSimpArgs false

/-! ### note.Check -/
theorem min_five (ats : Array TypeId) (ty : TypeId) (a b c d e : Value) : Builtin.min_ ats ty #[a, b, c, d, e] = (Builtin.min2 a b >>= fun s => Builtin.min2 s c >>= fun s => Builtin.min2 s d >>= fun s => Builtin.min2 s e >>= fun s => pure s) := by simp only [Builtin.min_, List.foldlM_cons, List.foldlM_nil]
attribute [local go_sem] min2_int min_five
def evOk (a0 a2 a3 a4 a5 a6 : Int) : Bool := decide (1 ≤ a2 ∧ a2 ≤ 18) && decide (0 ≤ a0 ∧ 0 ≤ a3 ∧ 0 ≤ a4 ∧ 0 ≤ a5 ∧ 0 ≤ a6)
def note_Check.f (a0_0 a0_1 a0_2 a0_3 a0_4 a0_5 a0_6 : Int) : Option Bool := some (evOk a0_0 a0_2 a0_3 a0_4 a0_5 a0_6)
theorem evNames_ne : ∀ j : Nat, j < 18 → (rdOf ByteArray.empty evNames (j : Int)) ≠ ⟨#[]⟩
  | 0, _ | 1, _ | 2, _ | 3, _ | 4, _ | 5, _ | 6, _ | 7, _ | 8, _ | 9, _ | 10, _ | 11, _ | 12, _ | 13, _ | 14, _ | 15, _ | 16, _ | 17, _ => by decide
  | n + 18, h => absurd h (by omega)
set_option maxHeartbeats 8000000 in
set_option maxRecDepth 100000 in
theorem note_Check.calls (a0_0 a0_1 a0_2 a0_3 a0_4 a0_5 a0_6 : Int) (r : Bool) (w : World) (h : note_Check.f a0_0 a0_1 a0_2 a0_3 a0_4 a0_5 a0_6 = some r) :
    Calls Tryd.prog 9 #[.agg #[.int .i64 a0_0, .int .u64 a0_1, .int .i64 a0_2, .int .i64 a0_3, .int .i64 a0_4, .int .i64 a0_5, .int .i64 a0_6]] w fun e w' => e = .returned (.bool r) ∧ Below w.heap.size w w' := by
  unfold note_Check.f at h
  obtain rfl := Option.some.inj h
  clear h
  generalize hn : (if 1 ≤ a0_2 ∧ a0_2 ≤ 18 then rdOf ByteArray.empty evNames (a0_2 - 1) else ⟨#[]⟩) = nm
  have HN := Aside0.mk (show note_Name.f a0_2 = some nm by unfold note_Name.f; rw [hn])
  have hk : (nm.toList = []) ↔ ¬ (1 ≤ a0_2 ∧ a0_2 ≤ 18) := by
    subst hn
    by_cases h1 : 1 ≤ a0_2 ∧ a0_2 ≤ 18
    · rw [if_pos h1]
      obtain ⟨j, hj, rfl⟩ : ∃ j : Nat, j < 18 ∧ a0_2 = (j : Int) + 1 := ⟨(a0_2 - 1).toNat, by omega, by omega⟩
      rw [show (j : Int) + 1 - 1 = (j : Int) by omega]
      refine ⟨fun h => absurd ?_ (evNames_ne j hj), fun h => absurd h1 h⟩
      rw [ByteArray.toList_eq] at h
      rw [← bsOf_of (rdOf ByteArray.empty evNames (j : Int)), h]
      rfl
    · rw [if_neg h1]
      exact ⟨fun _ => h1, fun _ => by rw [ByteArray.toList_eq]⟩
  clear hn
  unfold evOk
  by_cases hE : nm.toList = []
  · have hq := hk.1 hE
    rw [decide_eq_false hq, Bool.false_and]
    clear hk hq
    go_enter Tryd.func9, Tryd.ntmps9
    go_wp2_with (go_at_call 20; refine (note_Name.calls _ _ _ HN.out).mono ?_; rintro e w2 ⟨rfl, hd⟩; have HD2 := Aside0.mk hd; clear hd)
    go_ret
    exact ⟨rfl, below_step (below_alloc (Below.refl _ _) _) HD2.out⟩
  · have hE2 : nm.toList.isEmpty = false := by simpa using hE
    have hq : 1 ≤ a0_2 ∧ a0_2 ≤ 18 := Classical.not_not.1 fun h => hE (hk.2 h)
    rw [decide_eq_true hq, Bool.true_and]
    clear hk hq
    go_enter Tryd.func9, Tryd.ntmps9
    go_wp2_with (go_at_call 20; refine (note_Name.calls _ _ _ HN.out).mono ?_; rintro e w2 ⟨rfl, hd⟩; have q0 : w2.cell? ⟨w.heap.size, 0, none⟩ = some (.int .i64 a0_0) := (hd.cell (by simp)).trans (by simp); have q3 : w2.cell? ⟨w.heap.size, 3, none⟩ = some (.int .i64 a0_3) := (hd.cell (by simp)).trans (by simp); have q4 : w2.cell? ⟨w.heap.size, 4, none⟩ = some (.int .i64 a0_4) := (hd.cell (by simp)).trans (by simp); have q5 : w2.cell? ⟨w.heap.size, 5, none⟩ = some (.int .i64 a0_5) := (hd.cell (by simp)).trans (by simp); have q6 : w2.cell? ⟨w.heap.size, 6, none⟩ = some (.int .i64 a0_6) := (hd.cell (by simp)).trans (by simp); have HD2 := Aside0.mk hd; clear hd)
    all_goals go_ret
    all_goals refine ⟨congrArg (fun b : Bool => Ending.returned (.bool b)) ?_, below_step (below_alloc (Below.refl _ _) _) HD2.out⟩
    all_goals rw [Bool.eq_iff_iff]
    all_goals (try simp only [hE2, Bool.not_false, Bool.true_and, decide_eq_true_eq, Bool.false_eq_true, false_iff, true_iff, iff_true])
    all_goals (repeat' split)
    all_goals (clear q0 q3 q4 q5 q6 HD2 HN hE hE2; grind)

theorem cell_store7 {w : World} {g : Nat} {a : Addr} (h : a.block ≠ g) (v0 v1 v2 v3 v4 v5 v6 : Value) : (((((((w.setCell ⟨g, 0, none⟩ v0).setCell ⟨g, 1, none⟩ v1).setCell ⟨g, 2, none⟩ v2).setCell ⟨g, 3, none⟩ v3).setCell ⟨g, 4, none⟩ v4).setCell ⟨g, 5, none⟩ v5).setCell ⟨g, 6, none⟩ v6).cell? a = w.cell? a := by
  rw [cell_far (p := ⟨g, 6, none⟩) h, cell_far (p := ⟨g, 5, none⟩) h, cell_far (p := ⟨g, 4, none⟩) h, cell_far (p := ⟨g, 3, none⟩) h, cell_far (p := ⟨g, 2, none⟩) h, cell_far (p := ⟨g, 1, none⟩) h, cell_far (p := ⟨g, 0, none⟩) h]
/-! ### strconv.FormatUint -/
theorem holds_zero0 (w : World) (T : TypeId) (nd : Nat) (hs : nd ≤ 24) : Go.Sort.Holds (fun (b : UInt8) => Value.int .u8 (b.toNat : Int)) (w.alloc (.cells Lib.zeros24 T)) w.heap.size 0 (Array.replicate nd (0 : UInt8)) := fun j hj => by
  have hj' : j < nd := by simpa using hj
  refine ⟨?_, World.frozen?_alloc_new _ _ _ _⟩
  rw [World.cell?_alloc_new, Lib.zeros24_at _ (by omega), getElem!_pos _ j hj]
  simp
theorem fin_pos0 (w : World) (o : Obj) (dk : Array UInt8) (k : Nat) : ∃ os, (Go.Sort.putRow (fun (b : UInt8) => Value.int .u8 (b.toNat : Int)) (w.alloc o) w.heap.size 0 dk).drewN k = Go.Sort.grow (w.drewN k) os := by
  rw [Go.Sort.alloc_eq_grow]
  obtain ⟨os', _, e⟩ := Go.Sort.putRow_grow_new (fun (b : UInt8) => Value.int .u8 (b.toNat : Int)) w #[o] w.heap.size 0 dk (Nat.le_refl _)
  exact ⟨os', by rw [e]; rfl⟩
set_option maxHeartbeats 8000000 in
set_option maxRecDepth 100000 in
theorem inner_FormatUint (u : Nat) (hu64 : u < 18446744073709551616) (w : World) (htab : Lib.TabIs Tryd.prog w "internal/strconv.uint64pow10" .u64 Lib.pow10Tab) :
    Calls Tryd.prog 42 #[.int .u64 u, .int .i64 10] w fun e w' => e = .returned (.string ⟨(Lib.decDigits u).toArray⟩) ∧ ∃ k os, w' = Go.Sort.grow (w.drewN k) os := by
  by_cases hs : u < 100
  · have c1 : wrap64 (u : Int) = (u : Int) := by unfold wrap64; omega
    have c3 : (u : Int) < 100 := by omega
    go_enter Tryd.func42, Tryd.ntmps42
    go_wp2_with (go_at_call 50; refine (Tryd.internal_strconv_small u hs _).mono ?_; rintro e w' ⟨rfl, rfl⟩)
    go_ret
    exact ⟨rfl, 0, #[], by simp [World.drewN_zero, Go.Sort.grow]⟩
  · have hu1 : 1 ≤ u := by omega
    have hnd20 : Lib.nDigits u ≤ 20 := by have := Lib.numDigits_eq u hu1 hu64; split at this <;> omega
    have hb3 : Lib.nDigits u ≤ 24 := by omega
    have c3 : ¬ (u : Int) < 100 := by omega
    have hal : Tryd.prog.arrayLen 78 = 24 := by kernel_rfl
    have hsl2 : ∀ W, (Instr.sliceAt 78 (.pointer (some ⟨w.heap.size, 0, none⟩)) none (some (.int .i64 (Lib.nDigits u : Int))) none).run Tryd.prog W = .ok (.slice (some ⟨w.heap.size, 0, none⟩) (Lib.nDigits u) 24) W := fun W => by
      rw [run_sliceAt_array_h W 78 ⟨w.heap.size, 0, none⟩ (by simp [Program.arrayLen, Program.elem, Tryd.underlying78]) .i64 (Lib.nDigits u : Int) (by omega) (by rw [hal]; omega)]
      go_simp
    have hH0 := holds_zero0 w 78 (Lib.nDigits u) (by omega)
    have hfmt := Tryd.internal_strconv_formatBase10 w.heap.size 0 24 u (Array.replicate (Lib.nDigits u) 0) (w.alloc (.cells Lib.zeros24 78)) hH0 (by rw [Array.size_replicate]; exact Lib.lt_pow_nDigits u) hu64 (by rw [Array.size_replicate]; omega)
    rw [Array.size_replicate] at hfmt
    have HH0 := Lib.hid hH0
    clear hH0 hal
    go_enter Tryd.func42, Tryd.ntmps42
    go_wp2_with (first
      | (go_at_call 51; refine (Tryd.internal_strconv_numDigits u hu1 hu64 _ (Lib.tabIs_alloc htab _)).mono ?_; rintro e w' ⟨rfl, rfl⟩))
    refine hfmt.mono ?_
    rintro e w' ⟨rfl, k, v', dk, rfl, hF⟩
    have hcv : (convert 32 9 (.slice (some ⟨w.heap.size, 0, none⟩) (Lib.nDigits u) 24)).run Tryd.prog ((Go.Sort.putRow (fun (b : UInt8) => Value.int .u8 (b.toNat : Int)) (w.alloc (.cells Lib.zeros24 78)) w.heap.size 0 dk).drewN k) = .ok (.string ⟨(Lib.decDigits u).toArray⟩) ((Go.Sort.putRow (fun (b : UInt8) => Value.int .u8 (b.toNat : Int)) (w.alloc (.cells Lib.zeros24 78)) w.heap.size 0 dk).drewN k) := by
      have h := run_convert_bytes_back (P := Tryd.prog) ((Go.Sort.putRow (fun (b : UInt8) => Value.int .u8 (b.toNat : Int)) (w.alloc (.cells Lib.zeros24 78)) w.heap.size 0 dk).drewN k) 32 9 5 ⟨w.heap.size, 0, none⟩ 24 (Lib.decDigits u) Tryd.underlying32 Tryd.underlying5 Tryd.underlying9 (fun j hj => by
        rw [Lib.row_is_numeral hF j hj, Lib.add_plain, World.cell?_drewN]
        exact Go.Sort.cell?_putRow (fun (b : UInt8) => Value.int .u8 (b.toNat : Int)) _ w.heap.size 0 _ dk HH0.out (by rw [hF.size, Array.size_replicate]) j (by rw [hF.size]; rw [Lib.decDigits_length] at hj; exact hj))
      rw [Lib.decDigits_length] at h
      exact h
    go_wp2
    go_ret
    obtain ⟨os, eo⟩ := fin_pos0 w (.cells Lib.zeros24 78) dk k
    exact ⟨rfl, k, os, eo⟩
def strconv_FormatUint.f (a0 a1 : Int) : Option ByteArray := if 0 ≤ a0 ∧ a0 ≤ 18446744073709551615 ∧ a1 = 10 then some (bsOf (Lib.decDigits a0.toNat)) else none
set_option maxHeartbeats 8000000 in
set_option maxRecDepth 100000 in
theorem strconv_FormatUint.calls (a0 a1 : Int) (r : ByteArray) (w : World) (hM_ : Aside0 (LaidW w)) (h : strconv_FormatUint.f a0 a1 = some r) :
    Calls Tryd.prog 26 #[.int .u64 a0, .int .i64 a1] w fun e w' => e = .returned (.string r) ∧ Below w.heap.size w w' := by
  unfold strconv_FormatUint.f at h
  split at h
  case isFalse => cases h
  rename_i hs
  obtain rfl := Option.some.inj h
  obtain ⟨h1, h2, rfl⟩ := hs
  obtain ⟨u, rfl⟩ := Int.eq_ofNat_of_zero_le h1
  have HU := Aside0.mk (show u < 18446744073709551616 by omega)
  clear h h1 h2
  go_enter Tryd.func26, Tryd.ntmps26
  go_wp2_with (go_at_call 42; refine (inner_FormatUint u HU.out _ hM_.out.2).mono ?_; rintro e w' ⟨rfl, k, os, rfl⟩)
  go_ret
  exact ⟨rfl, rfl, rfl, rfl, by show w.heap.size ≤ (w.heap ++ os).size; rw [Array.size_append]; omega, fun j hj => by show (w.heap ++ os)[j]? = w.heap[j]?; exact Array.getElem?_append_left hj⟩
end Go.Proofs.YtpkmhepoeefgkaaDoor.Pr
