import Derived.Test.YtfmajangcbgooaaGreatDoorProg
import Derived.Below
import Derived.Deep.Draws
import Derived.Deep.AppendLies
import Derived.Maps.AppendAt
import Derived.OwnWalk
import Derived.Laws.BytesArg
import Derived.Laws.MakeOwn
import Derived.Laws.OwnMore
import Derived.Deep.OwnRows
import Derived.Tactics
import Derived.Lib.ConvBytes
import Derived.Laws.Slices
import Derived.WalkKit
import Derived.KernelRfl
import Derived.RowKit3
import Derived.Deep.LoopGhost
import Derived.Deep.QuietTactic
import Derived.BigQuiet
import Derived.WideLaws
import Derived.Deep.DeepCutAuto
import Derived.Deep.CutBlock
import Derived.Deep.RegionHeld3
import Derived.Laws.Rows
import Derived.Lib.AppendStr
import Derived.ArgAppend
import Derived.Laws.IdiomCopy
import Derived.OrdersHeld
import Derived.Laws.BitsLemmas
import Derived.RowKit
import Derived.Test.YtfmajangcbgooaaGreatDoorWWords
import Derived.Test.YtfmajangcbgooaaGreatDoorWLast
import Derived.Test.YtfmajangcbgooaaGreatDoorWTab
import Derived.Test.YtfmajangcbgooaaGreatDoorWFour
import Derived.Test.YtfmajangcbgooaaGreatDoorWQPut
import Derived.Test.YtfmajangcbgooaaGreatDoorWApart
import Derived.Test.YtfmajangcbgooaaGreatDoorWArr
import Derived.Test.YtfmajangcbgooaaGreatDoorWZeros
import Derived.Test.YtfmajangcbgooaaGreatDoorWFoot
import Derived.Test.YtfmajangcbgooaaGreatDoorWKept
import Derived.Test.YtfmajangcbgooaaGreatDoorWShare
import Derived.Test.YtfmajangcbgooaaGreatDoorWN
import Derived.Test.YtfmajangcbgooaaGreatDoorWFootNe
import Derived.Test.YtfmajangcbgooaaGreatDoorWAt
import Derived.Test.YtfmajangcbgooaaGreatDoorWEqStruct
import Derived.Test.YtfmajangcbgooaaGreatDoorWRepsOne
import Derived.Test.YtfmajangcbgooaaGreatDoorWInv
import Derived.Test.YtfmajangcbgooaaGreatDoorWInvWords
import Derived.Test.YtfmajangcbgooaaGreatDoorWGuard
import Derived.Test.YtfmajangcbgooaaGreatDoorWNEv
import Derived.Test.YtfmajangcbgooaaGreatDoorWMore
import Derived.Test.YtfmajangcbgooaaGreatDoorShelf
import Derived.Test.YtfmajangcbgooaaGreatDoorG1
import Derived.RegionTactic
import Derived.Lib.CutLaws
import Derived.Lib.IndexBytes
import Derived.Sort.OwnSorted
namespace Go.Proofs.YtfmajangcbgooaaGreatDoor.Pr
open Go.RowKit Go.Proofs.YtfmajangcbgooaaGreatDoorW.PrintWords Go.Proofs.YtfmajangcbgooaaGreatDoorW.PrintLast Go.Proofs.YtfmajangcbgooaaGreatDoorW.PrintMore
set_option linter.unusedVariables false
set_option linter.unusedSimpArgs false

def bsOf (l : List UInt8) : ByteArray := ⟨l.toArray⟩
theorem bsOf_data (l : List UInt8) : (bsOf l).data.toList = l := rfl
theorem bsOf_of (s : ByteArray) : bsOf s.data.toList = s := by
  cases s
  simp [bsOf]
def joinB (l : List ByteArray) (sep : ByteArray) : ByteArray := bsOf (Lib.join (l.map (·.data.toList)) sep.data.toList)

/-! ### strings.Join -/
def strings_Join.f (l0 : List ByteArray) (a1 : ByteArray) : Option ByteArray :=
  if l0.length ≤ 140737488355328 ∧ (Lib.join (l0.map (·.data.toList)) a1.data.toList).length ≤ 140737488355328 then some (joinB l0 a1) else none

theorem cells_of_strs {w : World} {A : Option Addr} {l : List ByteArray} (h : Kd.string.C w A l.length l) (hp : 0 < l.length) :
    ∃ bk o, A = some ⟨bk, o, none⟩ ∧ bk < w.heap.size ∧ ∀ (j : Nat) x, l[j]? = some x → w.cell? ⟨bk, o + j, none⟩ = some (.string x) := by
  obtain ⟨ad, rfl, hc⟩ := (Kd.reads_of_C (enc := Value.string) (d := ByteArray.empty) (h1 := fun _ => rfl) h).2.2 hp
  have h0 := hc 0 hp
  have hs : ad.spot = none := by
    have : ad.add 0 = ad := by simp [Addr.add]
    rw [this] at h0
    unfold World.cell? at h0
    split at h0
    · cases hs : ad.spot with
      | none => rfl
      | some x => rw [hs] at h0; cases h0
    · cases h0
  obtain ⟨bk, o, sp⟩ := ad
  cases hs
  have h0' := World.block_lt_of_cell? w _ h0
  refine ⟨bk, o, rfl, by simpa [Addr.add] using h0', fun j x hj => ?_⟩
  have hl : j < l.length := (List.getElem?_eq_some_iff.1 hj).1
  have := hc j hl
  rw [List.getD_eq_getElem?_getD, hj, Option.getD_some] at this
  by_cases e : j = 0
  · subst e; simpa [Addr.add] using this
  · simpa [Addr.add, e] using this

theorem strings_Join.calls (A0 : Option Addr) (c0 : Nat) (l0 : List ByteArray) (a1 : ByteArray) (r : ByteArray) (w : World) (hr0 : Kd.C Kd.string w A0 l0.length l0) (hc0 : l0.length ≤ c0) (h : strings_Join.f l0 a1 = some r) :
    Calls Tryz.prog 68 #[.slice A0 l0.length c0, .string a1] w fun e w' => e = .returned (.string r) ∧ Below w.heap.size w w' := by
  unfold strings_Join.f at h
  split at h
  case isFalse => cases h
  rename_i hlen
  obtain rfl := Option.some.inj h
  rcases Nat.eq_zero_or_pos l0.length with h0 | h0
  · rw [h0]
    refine (Tryz.strings_Join_none A0 c0 a1 w).mono ?_
    rintro e w' ⟨rfl, rfl⟩
    obtain rfl := List.eq_nil_of_length_eq_zero h0
    exact ⟨rfl, Below.refl _ _⟩
  · obtain ⟨bk, o, rfl, hbk, hcells⟩ := cells_of_strs hr0 h0
    exact (Tryz.strings_Join bk o c0 l0 a1 w hcells hbk hlen.1 hc0 hlen.2)


/-! ### slices.Sort -/
def sortB (l : List ByteArray) : List ByteArray := ((l.map (·.data.toList)).mergeSort fun x y => decide (x ≤ y)).map bsOf
def slices_Sort_string_string.f (l0 : List ByteArray) : Option (List ByteArray) := if l0.length < 4611686018427387904 then some (sortB l0) else none
theorem sortB_length (l : List ByteArray) : (sortB l).length = l.length := by simp [sortB]
theorem encs_lists (l : List ByteArray) : encs Value.string l = (l.map (·.data.toList)).map encStr := by
  unfold encs
  rw [List.map_map]
  apply List.map_congr_left
  intro x _
  simp [Function.comp, encStr]
theorem encs_bsOf (l : List (List UInt8)) : encs Value.string (l.map bsOf) = l.map encStr := by
  simp [encs, bsOf, encStr, Function.comp]
theorem slices_Sort_string_string.calls (P0_ : Nat → Prop) (u9000_ : Value) (l0 : List ByteArray) (r : List ByteArray) (w0 w : World) (hB : Below w0.heap.size w0 w) (ho0 : Kd.R Kd.string 9 w w0.heap.size P0_ u9000_ l0) (h : slices_Sort_string_string.f l0 = some r) :
    Calls Tryz.prog 122 #[u9000_] w fun e w' => e = .returned (.tuple #[]) ∧ Kd.R Kd.string 9 w' w0.heap.size (fun k_ => (P0_ k_ ∨ w.heap.size ≤ k_)) u9000_ r ∧ Below w0.heap.size w0 w' ∧ Kept w w' (fun k_ => P0_ k_) := by
  unfold slices_Sort_string_string.f at h
  split at h
  case isFalse => cases h
  rename_i hlen
  obtain rfl := Option.some.inj h
  have hown := Kd.own_of_R ho0
  have hP := ho0.1
  rcases hown.2 with ⟨rfl, h0⟩ | ⟨g, cap, cur, rfl, hbase, hb, h1, h2, h3, h4⟩
  · refine (Tryz.slices_Sort_string_none none 0 w).mono ?_
    rintro e w' ⟨rfl, rfl⟩
    obtain rfl := List.eq_nil_of_length_eq_zero h0
    exact ⟨rfl, by simpa [sortB] using Kd.R_nil _ _ _ _ _, hB, Kept.refl _ _⟩
  · have hl : (l0.map (·.data.toList)).length = l0.length := by simp
    have hlt : g < w.heap.size := (Array.getElem?_eq_some_iff.1 hb).1
    have hH := holds_of_block (ss := l0.map (·.data.toList)) hb (by rw [hl, ← encs_lists]; simpa using h4)
    have hc := Tryz.slices_Sort_string g 0 cap (l0.map (·.data.toList)) w hH hlt (by rw [hl]; exact hlen)
    rw [hl] at hc
    refine hc.mono ?_
    rintro e w' ⟨rfl, n, os, rfl⟩
    have hg := grownBy_sorted (w := w) (g := g) (n := n) (os := os) ((l0.map (·.data.toList)).mergeSort fun x y => decide (x ≤ y)).toArray
    have ho := ownsRow_sorted (n := n) (os := os) (ss := l0.map (·.data.toList)) (ts := (l0.map (·.data.toList)).mergeSort fun x y => decide (x ≤ y)) (by simp) hbase hb (by rw [hl]; exact h1) h2 h3
    rw [hl, ← encs_bsOf] at ho
    have hs := sortB_length l0
    refine ⟨rfl, Kd.R_of_own (h1 := fun _ => rfl) (xs := sortB l0) (by rw [hs]; exact ho) (fun k hk => .inl (hP k hk)), ?_, ?_⟩
    · exact pw_below_grown hB (some g) hB.size hg (fun k hk => by cases hk; exact hbase)
    · exact Kept.of_grown hg (Kept.refl _ _) (fun k hk => .inl (hP k (by simpa [Value.ownBlock] using hk)))

/-! ### slices.Compact -/
def compactB (l : List ByteArray) : List ByteArray := (Lib.compact (l.map (·.data.toList))).map bsOf
def slices_Compact_string_string.f (l0 : List ByteArray) : Option (List ByteArray) := if l0.length ≤ 9223372036854775807 then some (compactB l0) else none
theorem compact_len (zs : List (List UInt8)) : (Lib.compact zs).length ≤ zs.length := by
  unfold Lib.compact Lib.compactUpTo
  rw [List.length_map]
  exact Nat.le_trans (List.length_filter_le _ _) (by simp)
theorem slices_Compact_string_string.calls (P0_ : Nat → Prop) (u9000_ : Value) (l0 : List ByteArray) (r : List ByteArray) (w0 w : World) (hB : Below w0.heap.size w0 w) (ho0 : Kd.R Kd.string 9 w w0.heap.size P0_ u9000_ l0) (h : slices_Compact_string_string.f l0 = some r) :
    Calls Tryz.prog 123 #[u9000_] w fun e w' => ∃ v0_ : Value, e = .returned (v0_) ∧ Kd.R Kd.string 9 w' w0.heap.size (fun k_ => (P0_ k_ ∨ w.heap.size ≤ k_)) v0_ r ∧ Below w0.heap.size w0 w' ∧ Kept w w' (fun k_ => P0_ k_) := by
  unfold slices_Compact_string_string.f at h
  split at h
  case isFalse => cases h
  rename_i hlen
  obtain rfl := Option.some.inj h
  have hown := Kd.own_of_R ho0
  have hP := ho0.1
  rcases hown.2 with ⟨rfl, h0⟩ | ⟨g, cap, cur, rfl, hbase, hb, h1, h2, h3, h4⟩
  · refine (Tryz.slices_Compact_string_empty none 0 w).mono ?_
    rintro e w' ⟨rfl, rfl⟩
    obtain rfl := List.eq_nil_of_length_eq_zero h0
    exact ⟨_, rfl, by simpa [compactB, Lib.compact, Lib.compactUpTo] using Kd.R_nil _ _ _ _ _, hB, Kept.refl _ _⟩
  · have hl : (l0.map (·.data.toList)).length = l0.length := by simp
    have hlt : g < w.heap.size := (Array.getElem?_eq_some_iff.1 hb).1
    have hH := holds_of_block (ss := l0.map (·.data.toList)) hb (by rw [hl, ← encs_lists]; simpa using h4)
    have hc := Tryz.slices_Compact_string g 0 cap (l0.map (·.data.toList)) w hH (by rw [hl]; exact hlen) (by rw [hl]; exact h1)
    rw [hl] at hc
    refine hc.mono ?_
    rintro e w' ⟨rfl, q, rfl⟩
    have hcl := compact_len (l0.map (·.data.toList))
    rw [hl] at hcl
    generalize hd : Lib.compact (l0.map (·.data.toList)) ++ List.replicate (l0.length - (Lib.compact (l0.map (·.data.toList))).length) [] = d
    have hdl : d.length = l0.length := by rw [← hd]; simp; omega
    have hg := grownBy_sorted (w := w) (g := g) (n := q) (os := #[]) d.toArray
    have ho := ownsRow_sorted (n := q) (os := #[]) (ss := l0.map (·.data.toList)) (ts := d) (by rw [hl]; exact hdl) hbase hb (by rw [hl]; exact h1) h2 h3
    rw [Sort.grow_empty] at hg ho
    rw [hl, ← encs_bsOf] at ho
    have hR := Kd.R_of_own (h1 := fun _ => rfl) (xs := d.map bsOf) (ok := fun k_ => (P0_ k_ ∨ w.heap.size ≤ k_)) (by rw [List.length_map, hdl]; exact ho) (fun k hk => .inl (hP k hk))
    refine ⟨_, rfl, ?_, ?_, ?_⟩
    · have ht := Kd.R_take (m := (Lib.compact (l0.map (·.data.toList))).length) hR (by rw [List.length_map, hdl]; exact hcl)
      have e : (d.map bsOf).take (Lib.compact (l0.map (·.data.toList))).length = compactB l0 := by
        rw [← List.map_take, ← hd, List.take_left]
        rfl
      rw [e] at ht
      exact ht
    · exact pw_below_grown hB (some g) hB.size hg (fun k hk => by cases hk; exact hbase)
    · exact Kept.of_grown hg (Kept.refl _ _) (fun k hk => .inl (hP k (by simpa [Value.ownBlock] using hk)))
end Go.Proofs.YtfmajangcbgooaaGreatDoor.Pr
