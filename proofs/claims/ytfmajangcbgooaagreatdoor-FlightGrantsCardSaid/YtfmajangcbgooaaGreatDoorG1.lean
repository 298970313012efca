import Derived.Test.YtfmajangcbgooaaGreatDoorProg
import Derived.Below
import Derived.Deep.Draws
import Derived.Deep.AppendLies
import Derived.Maps.AppendAt
import Derived.OwnWalk
import Derived.Laws.BytesArg
import Derived.Laws.MakeOwn
import Derived.Laws.OwnMore
import Derived.Deep.OwnRows
import Derived.Tactics
import Derived.Lib.ConvBytes
import Derived.Laws.Slices
import Derived.WalkKit
import Derived.KernelRfl
import Derived.RowKit3
import Derived.Deep.LoopGhost
import Derived.Deep.QuietTactic
import Derived.BigQuiet
import Derived.WideLaws
import Derived.Deep.DeepCutAuto
import Derived.Deep.CutBlock
import Derived.Deep.RegionHeld3
import Derived.Laws.Rows
import Derived.Lib.AppendStr
import Derived.ArgAppend
import Derived.Laws.IdiomCopy
import Derived.OrdersHeld
import Derived.Laws.BitsLemmas
import Derived.RowKit
import Derived.Test.YtfmajangcbgooaaGreatDoorWWords
import Derived.Test.YtfmajangcbgooaaGreatDoorWLast
import Derived.Test.YtfmajangcbgooaaGreatDoorWTab
import Derived.Test.YtfmajangcbgooaaGreatDoorWFour
import Derived.Test.YtfmajangcbgooaaGreatDoorWQPut
import Derived.Test.YtfmajangcbgooaaGreatDoorWApart
import Derived.Test.YtfmajangcbgooaaGreatDoorWArr
import Derived.Test.YtfmajangcbgooaaGreatDoorWZeros
import Derived.Test.YtfmajangcbgooaaGreatDoorWFoot
import Derived.Test.YtfmajangcbgooaaGreatDoorWKept
import Derived.Test.YtfmajangcbgooaaGreatDoorWShare
import Derived.Test.YtfmajangcbgooaaGreatDoorWN
import Derived.Test.YtfmajangcbgooaaGreatDoorWFootNe
import Derived.Test.YtfmajangcbgooaaGreatDoorWAt
import Derived.Test.YtfmajangcbgooaaGreatDoorWEqStruct
import Derived.Test.YtfmajangcbgooaaGreatDoorWRepsOne
import Derived.Test.YtfmajangcbgooaaGreatDoorWInv
import Derived.Test.YtfmajangcbgooaaGreatDoorWInvWords
import Derived.Test.YtfmajangcbgooaaGreatDoorWGuard
import Derived.Test.YtfmajangcbgooaaGreatDoorWNEv
import Derived.Test.YtfmajangcbgooaaGreatDoorWMore
import Derived.Test.YtfmajangcbgooaaGreatDoorShelf
namespace Go.Proofs.YtfmajangcbgooaaGreatDoor.Pr
open Go.RowKit Go.Proofs.YtfmajangcbgooaaGreatDoorW.PrintWords Go.Proofs.YtfmajangcbgooaaGreatDoorW.PrintLast Go.Proofs.YtfmajangcbgooaaGreatDoorW.PrintMore
set_option linter.unusedVariables false
set_option linter.unusedSimpArgs false

theorem hid0 {p : Prop} (h : p) : Hid p := h
/-! ### a byte row that a conversion made -/
/-- The row at the first new block reads as the list, is not frozen where it reads, and the world is else as it was. -/
def ByteRow (w wr : World) (n : Nat) (xs : List Int) : Prop :=
  xs.length = n ∧ (∀ j, j < n → wr.cell? ⟨w.heap.size, j, none⟩ = some (.int .u8 (xs.getD j 0))) ∧ (∀ j, j < n → wr.frozen? ⟨w.heap.size, j, none⟩ = false) ∧ Below w.heap.size w wr ∧ w.heap.size < wr.heap.size

theorem bytesWorld_frozen (w : World) (e : TypeId) (s : ByteArray) (j : Nat) (hj : j < s.size) : (Lib.bytesWorld w e s).frozen? ⟨w.heap.size, j, none⟩ = false := by
  simp [World.frozen?, Lib.bytesWorld_at_new, Lib.bytesCells]
  omega

theorem byteRow_start (w : World) (e : TypeId) (s : ByteArray) : ByteRow w (Lib.bytesWorld w e s) s.size (bytesOf s) := by
  refine ⟨bytesOf_length s, fun j hj => ?_, fun j hj => bytesWorld_frozen w e s j hj, bytes_below (Below.refl _ _) (Nat.le_refl _) e s, by rw [Lib.bytesWorld_size]; omega⟩
  rw [Lib.bytesWorld_cell w e s j hj]
  have h' : j < s.data.toList.length := by rw [data_length]; exact hj
  simp [bytesOf, List.getD_eq_getElem?_getD, List.getElem?_eq_getElem h']

theorem byteRow_drewN {w wr : World} {n : Nat} {xs : List Int} (h : ByteRow w wr n xs) (m : Nat) : ByteRow w (wr.drewN m) n xs :=
  ⟨h.1, h.2.1, h.2.2.1, pw_below_drewN h.2.2.2.1 m, h.2.2.2.2⟩

theorem byteRow_set {w wr : World} {n : Nat} {xs : List Int} (h : ByteRow w wr n xs) (i : Nat) (hi : i < n) (x : Int) : ByteRow w (wr.setCell ⟨w.heap.size, i, none⟩ (.int .u8 x)) n (xs.set i x) := by
  refine ⟨by rw [List.length_set]; exact h.1, fun j hj => ?_, fun j hj => ?_, h.2.2.2.1.setCell (Nat.le_refl _) _, by simp [World.setCell]; exact h.2.2.2.2⟩
  · by_cases e : i = j
    · subst e
      rw [World.cell?_setCell_same _ _ _ (h.2.1 i hi)]
      have : i < xs.length := by rw [h.1]; exact hi
      simp [List.getD_eq_getElem?_getD, this]
    · rw [World.cell?_setCell_other _ _ _ _ (by intro e'; injection e' with _ e' _; exact e e'), h.2.1 j hj]
      simp [List.getD_eq_getElem?_getD, List.getElem?_set, e]
  · rw [World.frozen?_setCell]
    exact h.2.2.1 j hj

theorem byteRow_reads {w wr : World} {n : Nat} {xs : List Int} (h : ByteRow w wr n xs) (hn : n ≤ 9223372036854775807) : ReadsInt wr .u8 (some ⟨w.heap.size, 0, none⟩) n xs :=
  ⟨h.1, hn, fun _ => ⟨_, rfl, fun j hj => by rw [add_plain]; exact h.2.1 j hj⟩⟩

/-- The bytes of a text, those ahead of place k turned. -/
def mapB (g : Nat → Int → Int) (s : ByteArray) (k : Nat) : List Int := (bytesOf s).mapIdx fun i c => if i < k then g i c else c
theorem mapB_zero (g : Nat → Int → Int) (s : ByteArray) : mapB g s 0 = bytesOf s := by
  apply List.ext_getElem?
  intro i
  simp [mapB]
theorem mapB_all (g : Nat → Int → Int) (s : ByteArray) (k : Nat) (h : s.size ≤ k) : mapB g s k = (bytesOf s).mapIdx g := by
  apply List.ext_getElem?
  intro i
  simp only [mapB, List.getElem?_mapIdx]
  by_cases hi : i < (bytesOf s).length
  · rw [List.getElem?_eq_getElem hi]
    have : i < k := by rw [bytesOf_length] at hi; omega
    simp [this]
  · rw [List.getElem?_eq_none (by omega)]
    rfl
theorem mapB_length (g : Nat → Int → Int) (s : ByteArray) (k : Nat) : (mapB g s k).length = s.size := by
  rw [← bytesOf_length s]
  simp [mapB]
theorem mapB_at (g : Nat → Int → Int) (s : ByteArray) (k : Nat) (h : k < s.size) : (mapB g s k).getD k 0 = bt s k := by
  have h' : k < (bytesOf s).length := by rw [bytesOf_length]; exact h
  rw [← rd_bytesOf]
  simp [mapB, rd, List.getD_eq_getElem?_getD, List.getElem?_mapIdx, h']
theorem mapB_succ (g : Nat → Int → Int) (s : ByteArray) (k : Nat) (h : k < s.size) : mapB g s (k + 1) = (mapB g s k).set k (g k (bt s k)) := by
  have h' : k < (bytesOf s).length := by rw [bytesOf_length]; exact h
  have hb : bt s k = (bytesOf s)[k] := by
    rw [← rd_bytesOf]
    simp [rd, List.getD_eq_getElem?_getD, h']
  rw [hb]
  apply List.ext_getElem?
  intro i
  simp only [mapB, List.getElem?_set, List.getElem?_mapIdx, List.length_mapIdx]
  rcases Nat.lt_trichotomy i k with hlt | rfl | hgt
  · rw [if_neg (by omega)]
    congr 1
    funext c
    rw [if_pos (by omega), if_pos hlt]
  · rw [if_pos rfl, if_pos h', List.getElem?_eq_getElem h']
    simp
  · rw [if_neg (by omega)]
    congr 1
    funext c
    rw [if_neg (by omega), if_neg (by omega)]
theorem mapB_stay (g : Nat → Int → Int) (s : ByteArray) (k : Nat) (h : k < s.size) (hg : g k (bt s k) = bt s k) : mapB g s (k + 1) = mapB g s k := by
  rw [mapB_succ g s k h, hg]
  have hl : k < (mapB g s k).length := by rw [mapB_length]; exact h
  have := mapB_at g s k h
  rw [List.getD_eq_getElem?_getD, List.getElem?_eq_getElem hl, Option.getD_some] at this
  rw [← this, List.set_getElem_self]

/-! ### strings.IndexByte -/
def strings_IndexByte.f (a0 : ByteArray) (a1 : Int) : Option Int := some (Lib.indexByte a0.data.toList a1.toNat.toUInt8)
theorem strings_IndexByte.calls (a0 : ByteArray) (a1 : Int) (r : Int) (w : World) (h : strings_IndexByte.f a0 a1 = some r) :
    Calls Tryz.prog 141 #[.string a0, .int .u8 a1] w fun e w' => e = .returned (.int .i64 r) ∧ Drawn0 w w' := by
  obtain rfl := Option.some.inj h
  refine (Tryz.strings_IndexByte a0 a1 w).mono ?_
  rintro e w' ⟨rfl, rfl⟩
  exact ⟨rfl, Drawn0.refl _⟩

/-! ### octet.Lower -/
def lowI (c : Int) : Int := if 65 ≤ c ∧ c ≤ 90 then c + 32 else c
def lowS (s : ByteArray) : ByteArray := strOfNums ((bytesOf s).mapIdx fun _ c => lowI c)
def octet_Lower.f (a0 : ByteArray) : Option ByteArray := if a0.size ≤ 9223372036854775807 then some (lowS a0) else none

set_option maxHeartbeats 8000000 in
set_option maxRecDepth 100000 in
theorem octet_Lower.calls (a0 : ByteArray) (r : ByteArray) (w : World) (h : octet_Lower.f a0 = some r) :
    Calls Tryz.prog 95 #[.string a0] w fun e w' => e = .returned (.string r) ∧ Below w.heap.size w w' := by
  unfold octet_Lower.f at h
  by_cases hs : a0.size ≤ 9223372036854775807
  case neg =>
    rw [if_neg hs] at h
    cases h
  rw [if_pos hs] at h
  have hr := Option.some.inj h
  unfold lowS at hr
  have HR := hid0 hr
  clear hr h
  have kb := fun W => print_bytes (P := Tryz.prog) 9 129 5 Tryz.underlying9 Tryz.underlying129 Tryz.underlying5 a0 W
  go_enter Tryz.func95, Tryz.ntmps95
  go_wp2
  go_loopw [10] (fun i wr => ∃ k : Nat, k ≤ a0.size ∧ i = .int .i64 k ∧ Aside0 (ByteRow w wr a0.size (mapB (fun _ c => lowI c) a0 k))) (fun i _ => a0.size - (intOf i).toNat)
  case atStart => exact ⟨0, Nat.zero_le _, rfl, ⟨by rw [mapB_zero]; exact byteRow_start w 5 a0⟩⟩
  case round =>
    obtain ⟨k, hk, rfl, HB⟩ := hrel
    by_cases hlt : k < a0.size
    · have hc := HB.out.2.1 k hlt
      rw [mapB_at _ a0 k hlt] at hc
      have hf := HB.out.2.2.1 k hlt
      have hsuc := byteRow_set HB.out k hlt (lowI (bt a0 k))
      rw [← mapB_succ _ a0 k hlt] at hsuc
      have HS := Aside0.mk hsuc
      clear hsuc
      have hb0 := bt_range a0 k
      by_cases h1 : 65 ≤ bt a0 k ∧ bt a0 k ≤ 90
      · have e1 : lowI (bt a0 k) = bt a0 k - 65 + 97 := by unfold lowI; rw [if_pos h1]; omega
        rw [e1] at HS
        obtain ⟨h2, h3⟩ := h1
        go_wp2
        exact ⟨⟨k + 1, by omega, by go_num, HS⟩, by simp [intOf]; omega⟩
      · have e1 : lowI (bt a0 k) = bt a0 k := by unfold lowI; rw [if_neg h1]
        have HS' : Aside0 (ByteRow w wr a0.size (mapB (fun _ c => lowI c) a0 (k + 1))) := ⟨by rw [mapB_stay _ a0 k hlt e1]; exact HB.out⟩
        clear HS
        by_cases h2 : 65 ≤ bt a0 k
        · have h3 : ¬ bt a0 k ≤ 90 := fun h => h1 ⟨h2, h⟩
          go_wp2
          exact ⟨⟨k + 1, by omega, by go_num, HS'⟩, by simp [intOf]; omega⟩
        · go_wp2
          exact ⟨⟨k + 1, by omega, by go_num, HS'⟩, by simp [intOf]; omega⟩
    · have e : k = a0.size := by omega
      have hr := byteRow_reads HB.out hs
      rw [mapB_all _ a0 k (by omega)] at hr
      have kc := string_of_reads (P := Tryz.prog) (src := 129) (dst := 9) (e := 5) (c := grownCap w a0.size 0 5) Tryz.underlying129 Tryz.underlying5 Tryz.underlying9 hr
      rw [HR.out] at kc
      have hb := Aside0.mk HB.out.2.2.2.1
      clear hr HB
      go_wp2
      go_ret
      exact ⟨rfl, hb.out⟩

/-! ### lockkeeperref1.Lower -/
def lockkeeperref1_Lower.f (a0 : ByteArray) : Option ByteArray := if a0.size ≤ 9223372036854775807 then some (lowS a0) else none

set_option maxHeartbeats 8000000 in
set_option maxRecDepth 100000 in
theorem lockkeeperref1_Lower.calls (a0 : ByteArray) (r : ByteArray) (w : World) (h : lockkeeperref1_Lower.f a0 = some r) :
    Calls Tryz.prog 107 #[.string a0] w fun e w' => e = .returned (.string r) ∧ Below w.heap.size w w' := by
  unfold lockkeeperref1_Lower.f at h
  by_cases hs : a0.size ≤ 9223372036854775807
  case neg =>
    rw [if_neg hs] at h
    cases h
  rw [if_pos hs] at h
  have hr := Option.some.inj h
  unfold lowS at hr
  have HR := hid0 hr
  clear hr h
  have kb := fun W => print_bytes (P := Tryz.prog) 9 129 5 Tryz.underlying9 Tryz.underlying129 Tryz.underlying5 a0 W
  go_enter Tryz.func107, Tryz.ntmps107
  go_wp2
  go_loopw [4] (fun i wr => ∃ k : Nat, k ≤ a0.size ∧ i = .int .i64 k ∧ Aside0 (ByteRow w wr a0.size (mapB (fun _ c => lowI c) a0 k))) (fun i _ => a0.size - (intOf i).toNat)
  case atStart => exact ⟨0, Nat.zero_le _, rfl, ⟨by rw [mapB_zero]; exact byteRow_start w 5 a0⟩⟩
  case round =>
    obtain ⟨k, hk, rfl, HB⟩ := hrel
    by_cases hlt : k < a0.size
    · have hc := HB.out.2.1 k hlt
      rw [mapB_at _ a0 k hlt] at hc
      have hf := HB.out.2.2.1 k hlt
      have hsuc := byteRow_set HB.out k hlt (lowI (bt a0 k))
      rw [← mapB_succ _ a0 k hlt] at hsuc
      have HS := Aside0.mk hsuc
      clear hsuc
      have hb0 := bt_range a0 k
      by_cases h1 : 65 ≤ bt a0 k ∧ bt a0 k ≤ 90
      · have e1 : lowI (bt a0 k) = bt a0 k + 32 := by unfold lowI; rw [if_pos h1]
        rw [e1] at HS
        obtain ⟨h2, h3⟩ := h1
        go_wp2
        exact ⟨⟨k + 1, by omega, by go_num, HS⟩, by simp [intOf]; omega⟩
      · have e1 : lowI (bt a0 k) = bt a0 k := by unfold lowI; rw [if_neg h1]
        have HS' : Aside0 (ByteRow w wr a0.size (mapB (fun _ c => lowI c) a0 (k + 1))) := ⟨by rw [mapB_stay _ a0 k hlt e1]; exact HB.out⟩
        clear HS
        by_cases h2 : 65 ≤ bt a0 k
        · have h3 : ¬ bt a0 k ≤ 90 := fun h => h1 ⟨h2, h⟩
          go_wp2
          exact ⟨⟨k + 1, by omega, by go_num, HS'⟩, by simp [intOf]; omega⟩
        · go_wp2
          exact ⟨⟨k + 1, by omega, by go_num, HS'⟩, by simp [intOf]; omega⟩
    · have e : k = a0.size := by omega
      have hr := byteRow_reads HB.out hs
      rw [mapB_all _ a0 k (by omega)] at hr
      have kc := string_of_reads (P := Tryz.prog) (src := 129) (dst := 9) (e := 5) (c := grownCap w a0.size 0 5) Tryz.underlying129 Tryz.underlying5 Tryz.underlying9 hr
      rw [HR.out] at kc
      have hb := Aside0.mk HB.out.2.2.2.1
      clear hr HB
      go_wp2
      go_ret
      exact ⟨rfl, hb.out⟩

/-! ### lockkeeperlaw0.Flip -/
def flipI (bits : Int) (i : Nat) (c : Int) : Int :=
  if 65 ≤ c ∧ c ≤ 90 then (if bits.toNat.testBit (i % 64) then c + 32 else c)
  else if 97 ≤ c ∧ c ≤ 122 then (if bits.toNat.testBit (i % 64) then c - 32 else c) else c
def flipS (s : ByteArray) (bits : Int) : ByteArray := strOfNums ((bytesOf s).mapIdx (flipI bits))
def lockkeeperlaw0_Flip.f (a0 : ByteArray) (a1 : Int) : Option ByteArray := if a0.size ≤ 9223372036854775807 ∧ 0 ≤ a1 ∧ a1 < 18446744073709551616 then some (flipS a0 a1) else none

theorem flip_and (x : Int) (i : Nat) (h0 : 0 ≤ x) (h1 : x < 18446744073709551616) : (bits BinOp.and IntKind.u64 (x / 2 ^ i) 1 == 1) = x.toNat.testBit i := by
  obtain ⟨n, rfl⟩ := Int.eq_ofNat_of_zero_le h0
  have e : ((n : Int) / 2 ^ i) = ((n / 2 ^ i : Nat) : Int) := by push_cast; rfl
  have hn : n / 2 ^ i ≤ n := Nat.div_le_self _ _
  rw [e, Int.toNat_natCast, Nat.testBit_eq_decide_div_mod_eq]
  generalize n / 2 ^ i = q at hn
  have hm := bits_mask .u64 64 (by decide) (fun m a b => by simp [IntKind.wrap, IntKind.bits, IntKind.signed]; omega) 1 (by decide) (q : Int) (Int.natCast_nonneg _) (by omega)
  have hm' : bits BinOp.and IntKind.u64 (q : Int) 1 = (q : Int) % 2 := hm
  rw [hm', Bool.eq_iff_iff]
  simp
  omega
theorem flip_up (c : Int) (h1 : 65 ≤ c) (h2 : c ≤ 90) : bits BinOp.xor IntKind.u8 c 32 = c + 32 := by
  obtain ⟨n, rfl⟩ := Int.eq_ofNat_of_zero_le (show 0 ≤ c by omega)
  have : ∀ m : Nat, m < 26 → bits BinOp.xor IntKind.u8 ((m + 65 : Nat) : Int) 32 = ((m + 65 : Nat) : Int) + 32 := by decide
  have := this (n - 65) (by omega)
  rwa [show n - 65 + 65 = n by omega] at this
theorem flip_low (c : Int) (h1 : 97 ≤ c) (h2 : c ≤ 122) : bits BinOp.xor IntKind.u8 c 32 = c - 32 := by
  obtain ⟨n, rfl⟩ := Int.eq_ofNat_of_zero_le (show 0 ≤ c by omega)
  have : ∀ m : Nat, m < 26 → bits BinOp.xor IntKind.u8 ((m + 97 : Nat) : Int) 32 = ((m + 97 : Nat) : Int) - 32 := by decide
  have := this (n - 97) (by omega)
  rwa [show n - 97 + 97 = n by omega] at this

end Go.Proofs.YtfmajangcbgooaaGreatDoor.Pr
