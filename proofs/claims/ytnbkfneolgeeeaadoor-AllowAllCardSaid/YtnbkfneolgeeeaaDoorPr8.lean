-- Made by a program of this session (wip/xp/xp.py), over the print's words.
import Derived.Test.YtnbkfneolgeeeaaDoorPr0
import Derived.Test.YtnbkfneolgeeeaaDoorPr5
import Derived.Test.YtnbkfneolgeeeaaDoorPr6
import Derived.Test.YtnbkfneolgeeeaaDoorPr7
import Derived.Test.YtnbkfneolgeeeaaDoorG1
namespace Go.Proofs.YtnbkfneolgeeeaaDoor.Pr
open Go.RowKit Go.Proofs.YtnbkfneolgeeeaaDoorW.PrintWords Go.Proofs.YtnbkfneolgeeeaaDoorW.PrintLast Go.Proofs.YtnbkfneolgeeeaaDoorW.PrintMore
attribute [local go_sem] max2_int min2_int max_two min_two max_three min_three max_four min_four   -- for this text's walks alone
set_option linter.unusedVariables false
set_option linter.unusedSimpArgs false

/-! ### lockkeeperref14_Read: function 19 -/
mutual
def lockkeeperref14_Read.l0 : Nat → ByteArray → ByteArray → Int → List ByteArray → Int → Option (List ByteArray × List ByteArray × Int × Int)
 | 0, _, _, _, _, _ => none
 | k + 1, x6, x8, x11, x206000, x206002 => if x11 < (x206000.length : Int) then (if 0 ≤ x11 then ((lockkeeperref1_Token.f k (rdOf ByteArray.empty x206000 x11)).bind fun t207 => (if t207 = true then (lockkeeperref14_Read.l0 k x6 x8 (wrap64 (x11 + 1)) x206000 x206002) else (some (([] : List ByteArray), ([] : List ByteArray), 0, 5)))) else (none)) else ((lockkeeperref1_Split.f k x6).bind fun t208 => (lockkeeperref14_Read.l1 k x8 t208 0 x206000 ([] : List ByteArray) x206002))
def lockkeeperref14_Read.l1 : Nat → ByteArray → List ByteArray → Int → List ByteArray → List ByteArray → Int → Option (List ByteArray × List ByteArray × Int × Int)
 | 0, _, _, _, _, _, _ => none
 | k + 1, x8, x12, x13, x206000, x206001, x206002 => if x13 < (x12.length : Int) then (if 0 ≤ x13 then ((lockkeeperref1_Token.f k (rdOf ByteArray.empty x12 x13)).bind fun t212 => (if t212 = true then ((lockkeeperref1_Lower.f (rdOf ByteArray.empty x12 x13)).bind fun t214 => (if x206001.length < 8796093022208 then (lockkeeperref14_Read.l1 k x8 x12 (wrap64 (x13 + 1)) x206000 (x206001 ++ [t214]) x206002) else (none))) else (some (([] : List ByteArray), ([] : List ByteArray), 0, 6)))) else (none)) else ((lockkeeperref1_Trim.f k x8).bind fun t218 => ((lockkeeperref1_Digits.f k t218).bind fun bt219 => (if bt219.2 = true then (some (x206000, x206001, mn bt219.1 7200, 0)) else (some (x206000, x206001, x206002, 0)))))
end
def lockkeeperref14_Read.f (k : Nat) (l0 : List (S35)) : Option (List ByteArray × List ByteArray × Int × Int) := (lockkeeperref6_Get.f k l0 (⟨#[97, 99, 99, 101, 115, 115, 45, 99, 111, 110, 116, 114, 111, 108, 45, 97, 108, 108, 111, 119, 45, 109, 101, 116, 104, 111, 100, 115]⟩ : ByteArray)).bind fun bt196 => ((lockkeeperref6_Get.f k l0 (⟨#[97, 99, 99, 101, 115, 115, 45, 99, 111, 110, 116, 114, 111, 108, 45, 97, 108, 108, 111, 119, 45, 104, 101, 97, 100, 101, 114, 115]⟩ : ByteArray)).bind fun bt198 => ((lockkeeperref6_Get.f k l0 (⟨#[97, 99, 99, 101, 115, 115, 45, 99, 111, 110, 116, 114, 111, 108, 45, 109, 97, 120, 45, 97, 103, 101]⟩ : ByteArray)).bind fun bt200 => ((lockkeeperref1_Split.f k bt196.1).bind fun t202 => (lockkeeperref14_Read.l0 k bt198.1 bt200.1 0 t202 5))))
theorem lockkeeperref14_Read.mono_l : ∀ k, (∀ y0 y1 y2 y3 y4, LeO (lockkeeperref14_Read.l0 k y0 y1 y2 y3 y4) (lockkeeperref14_Read.l0 (k + 1) y0 y1 y2 y3 y4)) ∧ (∀ y0 y1 y2 y3 y4 y5, LeO (lockkeeperref14_Read.l1 k y0 y1 y2 y3 y4 y5) (lockkeeperref14_Read.l1 (k + 1) y0 y1 y2 y3 y4 y5))
 | 0 => ⟨fun _ _ _ _ _ r h => by simp [lockkeeperref14_Read.l0] at h, fun _ _ _ _ _ _ r h => by simp [lockkeeperref14_Read.l1] at h⟩
 | k + 1 => by
  obtain ⟨ih0, ih1⟩ := lockkeeperref14_Read.mono_l k
  refine ⟨?_, ?_⟩
  ·intro y0 y1 y2 y3 y4
   unfold lockkeeperref14_Read.l0
   repeat' first
   | (with_reducible exact ih0 _ _ _ _ _)
   | (with_reducible exact ih1 _ _ _ _ _ _)
   | (with_reducible exact lockkeeperref1_Digits.mono _ _)
   | (with_reducible exact lockkeeperref1_Split.mono _ _)
   | (with_reducible exact lockkeeperref1_Token.mono _ _)
   | (with_reducible exact lockkeeperref1_Trim.mono _ _)
   | (with_reducible exact lockkeeperref6_Get.mono _ _ _)
   | (with_reducible exact LeO.refl _)
   | (with_reducible exact LeO.none _)
   | (with_reducible refine LeO.ite ?_ ?_)
   | (with_reducible refine LeO.bind ?_ (fun _ => ?_))
   | exact ih0 _ _ _ _ _
   | exact ih1 _ _ _ _ _ _
   | exact lockkeeperref1_Digits.mono _ _
   | exact lockkeeperref1_Split.mono _ _
   | exact lockkeeperref1_Token.mono _ _
   | exact lockkeeperref1_Trim.mono _ _
   | exact lockkeeperref6_Get.mono _ _ _
   | exact LeO.none _
   | refine LeO.ite ?_ ?_
   | refine LeO.bind ?_ (fun _ => ?_)
  ·intro y0 y1 y2 y3 y4 y5
   unfold lockkeeperref14_Read.l1
   repeat' first
   | (with_reducible exact ih0 _ _ _ _ _)
   | (with_reducible exact ih1 _ _ _ _ _ _)
   | (with_reducible exact lockkeeperref1_Digits.mono _ _)
   | (with_reducible exact lockkeeperref1_Split.mono _ _)
   | (with_reducible exact lockkeeperref1_Token.mono _ _)
   | (with_reducible exact lockkeeperref1_Trim.mono _ _)
   | (with_reducible exact lockkeeperref6_Get.mono _ _ _)
   | (with_reducible exact LeO.refl _)
   | (with_reducible exact LeO.none _)
   | (with_reducible refine LeO.ite ?_ ?_)
   | (with_reducible refine LeO.bind ?_ (fun _ => ?_))
   | exact ih0 _ _ _ _ _
   | exact ih1 _ _ _ _ _ _
   | exact lockkeeperref1_Digits.mono _ _
   | exact lockkeeperref1_Split.mono _ _
   | exact lockkeeperref1_Token.mono _ _
   | exact lockkeeperref1_Trim.mono _ _
   | exact lockkeeperref6_Get.mono _ _ _
   | exact LeO.none _
   | refine LeO.ite ?_ ?_
   | refine LeO.bind ?_ (fun _ => ?_)
theorem lockkeeperref14_Read.mono : ∀ a0 k, LeO (lockkeeperref14_Read.f k a0) (lockkeeperref14_Read.f (k + 1) a0) := by
 intro a0 k
 obtain ⟨ih0, ih1⟩ := lockkeeperref14_Read.mono_l k
 unfold lockkeeperref14_Read.f
 repeat' first
   | (with_reducible exact ih0 _ _ _ _ _)
   | (with_reducible exact ih1 _ _ _ _ _ _)
   | (with_reducible exact lockkeeperref1_Digits.mono _ _)
   | (with_reducible exact lockkeeperref1_Split.mono _ _)
   | (with_reducible exact lockkeeperref1_Token.mono _ _)
   | (with_reducible exact lockkeeperref1_Trim.mono _ _)
   | (with_reducible exact lockkeeperref6_Get.mono _ _ _)
   | (with_reducible exact LeO.refl _)
   | (with_reducible exact LeO.none _)
   | (with_reducible refine LeO.ite ?_ ?_)
   | (with_reducible refine LeO.bind ?_ (fun _ => ?_))
   | exact ih0 _ _ _ _ _
   | exact ih1 _ _ _ _ _ _
   | exact lockkeeperref1_Digits.mono _ _
   | exact lockkeeperref1_Split.mono _ _
   | exact lockkeeperref1_Token.mono _ _
   | exact lockkeeperref1_Trim.mono _ _
   | exact lockkeeperref6_Get.mono _ _ _
   | exact LeO.none _
   | refine LeO.ite ?_ ?_
   | refine LeO.bind ?_ (fun _ => ?_)
def lockkeeperref14_Read.T16 : Bool × List (List Nat × List Nat) := (true, [([], []), ([0], [0]), ([], []), ([], []), ([2, 3], [2, 3]), ([4], [4]), ([5], [5]), ([6], [6]), ([1, 7, 6], [1, 7]), ([0, 1, 2, 3, 4, 5, 6, 7, 8], []), ([9, 8, 8, 0, 1, 2, 3, 4, 5, 6, 7, 8], [8, 9])])
def lockkeeperref14_Read.B16 : List Nat := [0, 1, 0, 0, 12, 28, 60, 124, 255, 511, 1023]
theorem lockkeeperref14_Read.tab16 : rtab .any (opsOf Tryd.f19 16) = lockkeeperref14_Read.T16 := by kernel_rfl
theorem lockkeeperref14_Read.bits16 : waitsOk lockkeeperref14_Read.T16.2 lockkeeperref14_Read.B16 = true := by kernel_rfl
set_option maxHeartbeats 8000000 in
set_option maxRecDepth 100000 in
theorem lockkeeperref14_Read.calls (k : Nat) (A0 : Option Addr) (c0 : Nat) (l0 : List (S35)) (r1 : List ByteArray) (r2 : List ByteArray) (r3 : Int) (r4 : Int) (w : World) (hr0 : Kd.C k35 w A0 l0.length l0) (hc0 : l0.length ≤ c0) (h : lockkeeperref14_Read.f k l0 = some (r1, r2, r3, r4)) :
  Calls Tryd.prog 19 #[.slice A0 l0.length c0] w fun e w' => ∃ v0_ v1_ : Value, e = .returned (.tuple #[.agg #[v0_, v1_, .int .u64 r3], .int .i64 r4]) ∧ Kd.R Kd.string 9 w' w.heap.size (fun k_ => some k_ ≠ (v1_ : Value).ownBlock) v0_ r1 ∧ Kd.R Kd.string 9 w' w.heap.size (fun k_ => some k_ ≠ (v0_ : Value).ownBlock) v1_ r2 ∧ Below w.heap.size w w' := by
 have hu42 := Tryd.underlying42
 have HR0 := Aside0.mk hr0
 have HC0 := Aside0.mk hc0
 clear hr0 hc0
 have HB := Aside0.mk (Below.refl w.heap.size w)
 have H : ((lockkeeperref6_Get.f k l0 (⟨#[97, 99, 99, 101, 115, 115, 45, 99, 111, 110, 116, 114, 111, 108, 45, 97, 108, 108, 111, 119, 45, 109, 101, 116, 104, 111, 100, 115]⟩ : ByteArray)).bind fun bt196 => ((lockkeeperref6_Get.f k l0 (⟨#[97, 99, 99, 101, 115, 115, 45, 99, 111, 110, 116, 114, 111, 108, 45, 97, 108, 108, 111, 119, 45, 104, 101, 97, 100, 101, 114, 115]⟩ : ByteArray)).bind fun bt198 => ((lockkeeperref6_Get.f k l0 (⟨#[97, 99, 99, 101, 115, 115, 45, 99, 111, 110, 116, 114, 111, 108, 45, 109, 97, 120, 45, 97, 103, 101]⟩ : ByteArray)).bind fun bt200 => ((lockkeeperref1_Split.f k bt196.1).bind fun t202 => (lockkeeperref14_Read.l0 k bt198.1 bt200.1 0 t202 5))))) = some (r1, r2, r3, r4) := h
 clear h
 replace H := Option.bind_eq_some_iff.mp H
 obtain ⟨⟨t196, t197⟩, A20, H⟩ := H
 replace H : ((lockkeeperref6_Get.f k l0 (⟨#[97, 99, 99, 101, 115, 115, 45, 99, 111, 110, 116, 114, 111, 108, 45, 97, 108, 108, 111, 119, 45, 104, 101, 97, 100, 101, 114, 115]⟩ : ByteArray)).bind fun bt198 => ((lockkeeperref6_Get.f k l0 (⟨#[97, 99, 99, 101, 115, 115, 45, 99, 111, 110, 116, 114, 111, 108, 45, 109, 97, 120, 45, 97, 103, 101]⟩ : ByteArray)).bind fun bt200 => ((lockkeeperref1_Split.f k t196).bind fun t202 => (lockkeeperref14_Read.l0 k bt198.1 bt200.1 0 t202 5)))) = some (r1, r2, r3, r4) := H
 have A2 := Aside0.mk A20
 clear A20
 replace H := Option.bind_eq_some_iff.mp H
 obtain ⟨⟨t198, t199⟩, A30, H⟩ := H
 replace H : ((lockkeeperref6_Get.f k l0 (⟨#[97, 99, 99, 101, 115, 115, 45, 99, 111, 110, 116, 114, 111, 108, 45, 109, 97, 120, 45, 97, 103, 101]⟩ : ByteArray)).bind fun bt200 => ((lockkeeperref1_Split.f k t196).bind fun t202 => (lockkeeperref14_Read.l0 k t198 bt200.1 0 t202 5))) = some (r1, r2, r3, r4) := H
 have A3 := Aside0.mk A30
 clear A30
 replace H := Option.bind_eq_some_iff.mp H
 obtain ⟨⟨t200, t201⟩, A40, H⟩ := H
 replace H : ((lockkeeperref1_Split.f k t196).bind fun t202 => (lockkeeperref14_Read.l0 k t198 t200 0 t202 5)) = some (r1, r2, r3, r4) := H
 have A4 := Aside0.mk A40
 clear A40
 replace H := Option.bind_eq_some_iff.mp H
 obtain ⟨t202, A50, H⟩ := H
 replace H : (lockkeeperref14_Read.l0 k t198 t200 0 t202 5) = some (r1, r2, r3, r4) := H
 have A5 := Aside0.mk A50
 clear A50
 have H' := Aside0.mk H
 clear H
 go_enter Tryd.func19, Tryd.ntmps19
 go_wp2_with (first | ((with_reducible refine gate_dst (N := 2) rfl ?_); refine box_event ?hg (N := 2) ?hd (cs := #[.slice none 0 0, .slice none 0 0, .int .u64 0]) (t := 42) ?hr ?_; (case hd => rfl); (case hg => rfl); (case hr => first | (go_simp; done) | (go_simp; rfl)); intro gb195 hg w6 hbox hb; have n0_ := Aside0.mk (below_step (by repeat (first | (with_reducible first | exact HB.out | apply below_alloc | apply pw_below_drewN | apply below_drew1) | exact HB.out)) hb); have n1_ := Aside0.mk (hbox); have n2_ := Aside0.mk ((by rw [hg]; exact (below_size (by repeat (first | (with_reducible first | exact HB.out | apply below_alloc | apply pw_below_drewN | apply below_drew1) | exact HB.out))) : w.heap.size ≤ gb195)); have n3_ := Aside0.mk ((by rw [hg]; exact (below_size (by repeat (first | (with_reducible first | exact HB.out | apply below_alloc | apply pw_below_drewN | apply below_drew1) | exact HB.out))) : w.heap.size ≤ gb195)); clear HB; have HB := n0_; have BK195 := n1_; have GW195 := n2_; have GE195 := n3_; clear n0_ n1_ n2_ n3_; clear hb hbox hg) | ((with_reducible refine gate_callee (f := 26) rfl ?_); refine goesL_ (some 18) rfl rfl Tryd.func26 (by kernel_rfl) rfl #[.slice A0 l0.length c0, .string (⟨#[97, 99, 99, 101, 115, 115, 45, 99, 111, 110, 116, 114, 111, 108, 45, 97, 108, 108, 111, 119, 45, 109, 101, 116, 104, 111, 100, 115]⟩ : ByteArray)] rfl (by (try simp only [List.map_toArray, List.map_cons, List.map_nil]); first | done | rfl | (simp only [List.length_drop, List.length_take]; rfl)) ?_; (with_reducible refine (lockkeeperref6_Get.calls k _ _ l0 (⟨#[97, 99, 99, 101, 115, 115, 45, 99, 111, 110, 116, 114, 111, 108, 45, 97, 108, 108, 111, 119, 45, 109, 101, 116, 104, 111, 100, 115]⟩ : ByteArray) t196 t197 _ ?side1 ?side2 A2.out).mono ?_); (case side1 => repeat (first | exact (Kd.C_below HR0.out HB.out) | (with_reducible refine Kd.C_alloc ?_ _) | (with_reducible refine Kd.C_drewN ?_ _) | (with_reducible refine Kd.C_drew ?_))); (case side2 => exact HC0.out); rintro e w7 ⟨rfl, hb⟩; refine ⟨_, rfl, ?_⟩; have n0_ := Aside0.mk (blk_below (g := gb195) (o := .cells #[.slice none 0 0, .slice none 0 0, .int .u64 0] 42 (0, 0)) (by (with_reducible repeat (first | refine blk_drewN ?_ _ | refine blk_drew ?_ | refine blk_alloc ?_ _)); exact BK195.out) hb); have n1_ := Aside0.mk (below_step (by repeat (first | (with_reducible first | exact HB.out | apply below_alloc | apply pw_below_drewN | apply below_drew1 | refine below_set ?_ GE195.out) | exact HB.out)) hb); clear BK195; clear HB; have BK195 := n0_; have HB := n1_; clear n0_ n1_; (try clear hb); (try clear hb2); (try clear hk); (try clear hi)) | ((with_reducible refine gate_callee (f := 26) rfl ?_); refine goesL_ (some 23) rfl rfl Tryd.func26 (by kernel_rfl) rfl #[.slice A0 l0.length c0, .string (⟨#[97, 99, 99, 101, 115, 115, 45, 99, 111, 110, 116, 114, 111, 108, 45, 97, 108, 108, 111, 119, 45, 104, 101, 97, 100, 101, 114, 115]⟩ : ByteArray)] rfl (by (try simp only [List.map_toArray, List.map_cons, List.map_nil]); first | done | rfl | (simp only [List.length_drop, List.length_take]; rfl)) ?_; (with_reducible refine (lockkeeperref6_Get.calls k _ _ l0 (⟨#[97, 99, 99, 101, 115, 115, 45, 99, 111, 110, 116, 114, 111, 108, 45, 97, 108, 108, 111, 119, 45, 104, 101, 97, 100, 101, 114, 115]⟩ : ByteArray) t198 t199 _ ?side1 ?side2 A3.out).mono ?_); (case side1 => repeat (first | exact (Kd.C_below HR0.out HB.out) | (with_reducible refine Kd.C_alloc ?_ _) | (with_reducible refine Kd.C_drewN ?_ _) | (with_reducible refine Kd.C_drew ?_))); (case side2 => exact HC0.out); rintro e w8 ⟨rfl, hb⟩; refine ⟨_, rfl, ?_⟩; have n0_ := Aside0.mk (blk_below (g := gb195) (o := .cells #[.slice none 0 0, .slice none 0 0, .int .u64 0] 42 (0, 0)) (by (with_reducible repeat (first | refine blk_drewN ?_ _ | refine blk_drew ?_ | refine blk_alloc ?_ _)); exact BK195.out) hb); have n1_ := Aside0.mk (below_step (by repeat (first | (with_reducible first | exact HB.out | apply below_alloc | apply pw_below_drewN | apply below_drew1 | refine below_set ?_ GE195.out) | exact HB.out)) hb); clear BK195; clear HB; have BK195 := n0_; have HB := n1_; clear n0_ n1_; (try clear hb); (try clear hb2); (try clear hk); (try clear hi)) | ((with_reducible refine gate_callee (f := 26) rfl ?_); refine goesL_ (some 28) rfl rfl Tryd.func26 (by kernel_rfl) rfl #[.slice A0 l0.length c0, .string (⟨#[97, 99, 99, 101, 115, 115, 45, 99, 111, 110, 116, 114, 111, 108, 45, 109, 97, 120, 45, 97, 103, 101]⟩ : ByteArray)] rfl (by (try simp only [List.map_toArray, List.map_cons, List.map_nil]); first | done | rfl | (simp only [List.length_drop, List.length_take]; rfl)) ?_; (with_reducible refine (lockkeeperref6_Get.calls k _ _ l0 (⟨#[97, 99, 99, 101, 115, 115, 45, 99, 111, 110, 116, 114, 111, 108, 45, 109, 97, 120, 45, 97, 103, 101]⟩ : ByteArray) t200 t201 _ ?side1 ?side2 A4.out).mono ?_); (case side1 => repeat (first | exact (Kd.C_below HR0.out HB.out) | (with_reducible refine Kd.C_alloc ?_ _) | (with_reducible refine Kd.C_drewN ?_ _) | (with_reducible refine Kd.C_drew ?_))); (case side2 => exact HC0.out); rintro e w9 ⟨rfl, hb⟩; refine ⟨_, rfl, ?_⟩; have n0_ := Aside0.mk (blk_below (g := gb195) (o := .cells #[.slice none 0 0, .slice none 0 0, .int .u64 0] 42 (0, 0)) (by (with_reducible repeat (first | refine blk_drewN ?_ _ | refine blk_drew ?_ | refine blk_alloc ?_ _)); exact BK195.out) hb); have n1_ := Aside0.mk (below_step (by repeat (first | (with_reducible first | exact HB.out | apply below_alloc | apply pw_below_drewN | apply below_drew1 | refine below_set ?_ GE195.out) | exact HB.out)) hb); clear BK195; clear HB; have BK195 := n0_; have HB := n1_; clear n0_ n1_; (try clear hb); (try clear hb2); (try clear hk); (try clear hi)) | ((with_reducible refine gate_callee (f := 31) rfl ?_); refine goesL_ (some 32) rfl rfl Tryd.func31 (by kernel_rfl) rfl #[.string t196] rfl (by (try simp only [List.map_toArray, List.map_cons, List.map_nil]); first | done | rfl | (simp only [List.length_drop, List.length_take]; rfl)) ?_; (with_reducible refine (lockkeeperref1_Split.calls k t196 t202 _ A5.out).mono ?_); rintro e w10 ⟨v203, rfl, ho0, hb⟩; refine ⟨_, rfl, ?_⟩; have n0_ := Aside0.mk (Kd.R_lower ho0 (below_size (by repeat (first | (with_reducible first | exact HB.out | apply below_alloc | apply pw_below_drewN | apply below_drew1 | refine below_set ?_ GE195.out) | exact HB.out)))); have n1_ := Aside0.mk (blk_below (g := gb195) (o := .cells #[.slice none 0 0, .slice none 0 0, .int .u64 0] 42 (0, 0)) (by (with_reducible repeat (first | refine blk_drewN ?_ _ | refine blk_drew ?_ | refine blk_alloc ?_ _)); exact BK195.out) hb); have n2_ := Aside0.mk (below_step (by repeat (first | (with_reducible first | exact HB.out | apply below_alloc | apply pw_below_drewN | apply below_drew1 | refine below_set ?_ GE195.out) | exact HB.out)) hb); clear BK195; clear HB; have HO204 := n0_; have BK195 := n1_; have HB := n2_; clear n0_ n1_ n2_; (try clear hb); (try clear hb2); (try clear hk); (try clear hi); (try clear ho0); obtain ⟨Ao11, co11, eo11⟩ := Kd.R_slice HO204.out; subst eo11) | ((with_reducible refine gate_dst (N := 10) rfl ?_); refine box_event ?hg (N := 10) ?hd (cs := #[.slice none 0 0, .slice none 0 0, .int .u64 0]) (t := 42) ?hr ?_; (case hd => rfl); (case hg => rfl); (case hr => first | (go_simp; done) | (go_simp; rfl)); intro gb205 hg w12 hbox hb; have n0_ := Aside0.mk (Kd.R_below (by (with_reducible repeat (first | apply Kd.R_alloc | apply Kd.R_drewN | apply Kd.R_drew)); exact HO204.out) hb); have n1_ := Aside0.mk (blk_below (g := gb195) (o := .cells #[.slice none 0 0, .slice none 0 0, .int .u64 0] 42 (0, 0)) (by (with_reducible repeat (first | refine blk_drewN ?_ _ | refine blk_drew ?_ | refine blk_alloc ?_ _)); exact BK195.out) hb); have n2_ := Aside0.mk (below_step (by repeat (first | (with_reducible first | exact HB.out | apply below_alloc | apply pw_below_drewN | apply below_drew1 | refine below_set ?_ GE195.out) | exact HB.out)) hb); have n3_ := Aside0.mk (hbox); have n4_ := Aside0.mk ((by rw [hg]; exact (below_size (by repeat (first | (with_reducible first | exact HB.out | apply below_alloc | apply pw_below_drewN | apply below_drew1 | refine below_set ?_ GE195.out) | exact HB.out))) : w.heap.size ≤ gb205)); have n5_ := Aside0.mk ((by rw [hg]; exact (below_size (by repeat (first | (with_reducible first | exact HB.out | apply below_alloc | apply pw_below_drewN | apply below_drew1 | refine below_set ?_ GE195.out) | exact HB.out))) : w.heap.size ≤ gb205)); have n6_ := Aside0.mk ((by rw [hg]; exact Nat.ne_of_lt (blk_lt (g := gb195) (o := .cells #[.slice none 0 0, .slice none 0 0, .int .u64 0] 42 (0, 0)) (by (with_reducible repeat (first | refine blk_drewN ?_ _ | refine blk_drew ?_ | refine blk_alloc ?_ _)); exact BK195.out)) : gb195 ≠ gb205)); have n7_ := Aside0.mk ((by rw [hg]; exact Nat.ne_of_gt (blk_lt (g := gb195) (o := .cells #[.slice none 0 0, .slice none 0 0, .int .u64 0] 42 (0, 0)) (by (with_reducible repeat (first | refine blk_drewN ?_ _ | refine blk_drew ?_ | refine blk_alloc ?_ _)); exact BK195.out)) : gb205 ≠ gb195)); clear HO204; clear BK195; clear HB; have HO204 := n0_; have BK195 := n1_; have HB := n2_; have BK205 := n3_; have GW205 := n4_; have GE205 := n5_; have NB195_205 := n6_; have NB205_195 := n7_; clear n0_ n1_ n2_ n3_ n4_ n5_ n6_ n7_; clear hb hbox hg; have hnb13 := NB205_195.out; have hnc13 := NB195_205.out; have hcz14_0 : w12.cell? ⟨gb205, 0, none⟩ = some (.slice none 0 0) := (blk_cell BK205.out 0).trans rfl; have hcz14_1 : w12.cell? ⟨gb205, 1, none⟩ = some (.slice none 0 0) := (blk_cell BK205.out 1).trans rfl; have hcz14_2 : w12.cell? ⟨gb205, 2, none⟩ = some (.int .u64 0) := (blk_cell BK205.out 2).trans rfl; have hfz14_0 := blk_frozen BK205.out 0; have hfz14_1 := blk_frozen BK205.out 1; have hfz14_2 := blk_frozen BK205.out 2))
 go_loopg [11] k (fun kq v11 w' => ∃ (x11_1 : Int) (x196002_1 : Int), v11 = .int .i64 x11_1 ∧ Aside0 (lockkeeperref14_Read.l0 kq t198 t200 x11_1 t202 5 = some (r1, r2, r3, r4)) ∧ Aside0 (kq ≤ k) ∧ Aside0 (Kd.R Kd.string 9 w' w.heap.size (fun _ => True) (.slice Ao11 t202.length co11) t202) ∧ Aside0 (w'.heap[gb195]? = some (.cells #[(.slice none 0 0), (.slice none 0 0), .int .u64 x196002_1] 42 (0, 0))) ∧ Aside0 (w'.heap[gb205]? = some (.cells #[(.slice Ao11 t202.length co11), (.slice none 0 0), .int .u64 5] 42 (0, 0))) ∧ Aside0 (Below w.heap.size w w'))
 case atStart => exact ⟨(0), (0), (by first | rfl | (simp; done) | (simp [*]; done)), H', ⟨Nat.le_refl _⟩, ⟨by (with_reducible repeat (first | apply Kd.R_alloc | apply Kd.R_drewN | apply Kd.R_drew)); exact Kd.R_mono (Kd.R_far (p := ⟨gb205, 2, none⟩) (Kd.R_far (p := ⟨gb205, 1, none⟩) (Kd.R_far (p := ⟨gb205, 0, none⟩) (Kd.R_types HO204.out BK205.out (by decide)) (fun _ hk => hk.2) (.slice Ao11 t202.length co11)) (fun _ hk => hk.2) (.slice none 0 0)) (fun _ hk => hk.2) (.int .u64 5)) (fun _ hk => trivial)⟩, ⟨by (with_reducible repeat (first | refine blk_drewN ?_ _ | refine blk_drew ?_ | refine blk_alloc ?_ _)); refine blk_far ?_ NB195_205.out _; (with_reducible repeat (first | refine blk_drewN ?_ _ | refine blk_drew ?_ | refine blk_alloc ?_ _)); refine blk_far ?_ NB195_205.out _; (with_reducible repeat (first | refine blk_drewN ?_ _ | refine blk_drew ?_ | refine blk_alloc ?_ _)); refine blk_far ?_ NB195_205.out _; (with_reducible repeat (first | refine blk_drewN ?_ _ | refine blk_drew ?_ | refine blk_alloc ?_ _)); exact BK195.out⟩, ⟨by (with_reducible repeat (first | refine blk_drewN ?_ _ | refine blk_drew ?_ | refine blk_alloc ?_ _)); refine blk_put (cs := #[.slice Ao11 t202.length co11, .slice none 0 0, .int .u64 0]) ?_ 2 _ rfl; (with_reducible repeat (first | refine blk_drewN ?_ _ | refine blk_drew ?_ | refine blk_alloc ?_ _)); refine blk_put (cs := #[.slice Ao11 t202.length co11, .slice none 0 0, .int .u64 0]) ?_ 1 _ rfl; (with_reducible repeat (first | refine blk_drewN ?_ _ | refine blk_drew ?_ | refine blk_alloc ?_ _)); refine blk_put (cs := #[.slice none 0 0, .slice none 0 0, .int .u64 0]) ?_ 0 _ rfl; (with_reducible repeat (first | refine blk_drewN ?_ _ | refine blk_drew ?_ | refine blk_alloc ?_ _)); exact BK205.out⟩, ⟨by repeat (first | (with_reducible first | exact HB.out | apply below_alloc | apply pw_below_drewN | apply below_drew1 | refine below_set ?_ GE195.out | refine below_set ?_ GE205.out) | exact HB.out)⟩⟩
 case round =>
  clear H'
  try clear c1
  try clear c2
  try clear p2
  try clear c3
  try clear c13
  try clear hcz14_0
  try clear hcz14_1
  try clear hcz14_2
  try clear hfz14_0
  try clear hfz14_1
  try clear hfz14_2
  obtain ⟨x11_1, x196002_1, rfl, HA, HK1, HO_206000, BK195, BK205, HB⟩ := hrel
  cases gk with
  | zero => exact absurd HA.out (by simp [lockkeeperref14_Read.l0])
  | succ k1 =>
   have H := HA.out
   clear HA
   simp only [lockkeeperref14_Read.l0] at H
   by_cases c15 : x11_1 < (t202.length : Int)
   ·rw [if_pos c15] at H
    have c15b0 : decide (x11_1 < (t202.length : Int)) = true := decide_eq_true c15
    clear c15
    by_cases c16 : 0 ≤ x11_1
    ·rw [if_pos c16] at H
     have c16b0 : decide (0 ≤ x11_1) = true := decide_eq_true c16
     clear c16
     replace H := Option.bind_eq_some_iff.mp H
     obtain ⟨t207, A170, H⟩ := H
     replace H : (if t207 = true then (lockkeeperref14_Read.l0 k1 t198 t200 (wrap64 (x11_1 + 1)) t202 5) else (some (([] : List ByteArray), ([] : List ByteArray), 0, 5))) = some (r1, r2, r3, r4) := H
     have A17 := Aside0.mk A170
     clear A170
     by_cases c18 : t207 = true
     ·subst c18
      have H1 : (lockkeeperref14_Read.l0 k1 t198 t200 (wrap64 (x11_1 + 1)) t202 5) = some (r1, r2, r3, r4) := by rw [if_pos rfl] at H; exact H
      clear H
      have H := H1
      clear H1
      have H' := Aside0.mk H
      clear H
      have hnb19 := NB205_195.out
      have hnc19 := NB195_205.out
      have hcz20_0 : wr.cell? ⟨gb205, 0, none⟩ = some (.slice Ao11 t202.length co11) := (blk_cell BK205.out 0).trans rfl
      have hcz20_1 : wr.cell? ⟨gb205, 1, none⟩ = some (.slice none 0 0) := (blk_cell BK205.out 1).trans rfl
      have hcz20_2 : wr.cell? ⟨gb205, 2, none⟩ = some (.int .u64 5) := (blk_cell BK205.out 2).trans rfl
      have hfz20_0 := blk_frozen BK205.out 0
      have hfz20_1 := blk_frozen BK205.out 1
      have hfz20_2 := blk_frozen BK205.out 2
      have p206 : 0 ≤ (x11_1 : Int) := of_decide_eq_true (by first | (with_reducible assumption) | assumption)
      have q206 : x11_1 < (t202.length : Int) := of_decide_eq_true (by first | (with_reducible assumption) | assumption)
      obtain ⟨ad206, e206, hx206_0⟩ := Kd.at_string (Kd.R_reads' HO_206000.out).2.2 x11_1 p206 q206
      cases e206
      replace p206 := eq_true p206
      replace q206 := eq_true q206
      go_wp2_with (first | ((with_reducible refine gate_callee (f := 41) rfl ?_); refine goesL_ (some 46) rfl rfl Tryd.func41 (by kernel_rfl) rfl #[.string (rdOf ByteArray.empty t202 x11_1)] rfl (by (try simp only [List.map_toArray, List.map_cons, List.map_nil]); first | done | rfl | (simp only [List.length_drop, List.length_take]; rfl)) ?_; (with_reducible refine (lockkeeperref1_Token.calls k1 (rdOf ByteArray.empty t202 x11_1) true _ A17.out).mono ?_); rintro e w' ⟨rfl, ⟨nd, rfl⟩⟩; refine ⟨_, rfl, ?_⟩))
      go_roundg k1
      case measure => have := HK1.out; omega
      case rel => exact ⟨(wrap64 (x11_1 + 1)), (x196002_1), (by first | rfl | (simp; done) | (simp [*]; done)), H', ⟨by have := HK1.out; omega⟩, ⟨by (with_reducible repeat (first | apply Kd.R_alloc | apply Kd.R_drewN | apply Kd.R_drew)); exact HO_206000.out⟩, ⟨by (with_reducible repeat (first | refine blk_drewN ?_ _ | refine blk_drew ?_ | refine blk_alloc ?_ _)); exact BK195.out⟩, ⟨by (with_reducible repeat (first | refine blk_drewN ?_ _ | refine blk_drew ?_ | refine blk_alloc ?_ _)); exact BK205.out⟩, ⟨by repeat (first | (with_reducible first | exact HB.out | apply below_alloc | apply pw_below_drewN | apply below_drew1 | refine below_set ?_ GE195.out | refine below_set ?_ GE205.out) | exact HB.out)⟩⟩
     ·replace c18 := Bool.eq_false_iff.mpr c18
      subst c18
      have H1 : (some (([] : List ByteArray), ([] : List ByteArray), 0, 5)) = some (r1, r2, r3, r4) := by rw [if_neg (show ¬ (false = true) by decide)] at H; exact H
      clear H
      have H := H1
      clear H1
      simp only [Option.some.injEq, Prod.mk.injEq] at H
      obtain ⟨rfl, rfl, rfl, rfl⟩ := H
      have hnb21 := NB205_195.out
      have hnc21 := NB195_205.out
      have hcz22_0 : wr.cell? ⟨gb205, 0, none⟩ = some (.slice Ao11 t202.length co11) := (blk_cell BK205.out 0).trans rfl
      have hcz22_1 : wr.cell? ⟨gb205, 1, none⟩ = some (.slice none 0 0) := (blk_cell BK205.out 1).trans rfl
      have hcz22_2 : wr.cell? ⟨gb205, 2, none⟩ = some (.int .u64 5) := (blk_cell BK205.out 2).trans rfl
      have hfz22_0 := blk_frozen BK205.out 0
      have hfz22_1 := blk_frozen BK205.out 1
      have hfz22_2 := blk_frozen BK205.out 2
      have p206 : 0 ≤ (x11_1 : Int) := of_decide_eq_true (by first | (with_reducible assumption) | assumption)
      have q206 : x11_1 < (t202.length : Int) := of_decide_eq_true (by first | (with_reducible assumption) | assumption)
      obtain ⟨ad206, e206, hx206_0⟩ := Kd.at_string (Kd.R_reads' HO_206000.out).2.2 x11_1 p206 q206
      cases e206
      replace p206 := eq_true p206
      replace q206 := eq_true q206
      go_wp2_with (first | ((with_reducible refine gate_callee (f := 41) rfl ?_); refine goesL_ (some 46) rfl rfl Tryd.func41 (by kernel_rfl) rfl #[.string (rdOf ByteArray.empty t202 x11_1)] rfl (by (try simp only [List.map_toArray, List.map_cons, List.map_nil]); first | done | rfl | (simp only [List.length_drop, List.length_take]; rfl)) ?_; (with_reducible refine (lockkeeperref1_Token.calls k1 (rdOf ByteArray.empty t202 x11_1) false _ A17.out).mono ?_); rintro e w' ⟨rfl, ⟨nd, rfl⟩⟩; refine ⟨_, rfl, ?_⟩; (try (rw [drewN_self wr]; generalize hq_ : World.drewN wr _ = wr; have n0_ : Aside0 (Kd.R Kd.string 9 wr w.heap.size (fun _ => True) (.slice (some ad206) t202.length co11) t202) := ⟨by rw [← hq_]; exact (by (with_reducible repeat (first | apply Kd.R_alloc | apply Kd.R_drewN | apply Kd.R_drew)); exact HO_206000.out)⟩; have n1_ : Aside0 (wr.heap[gb195]? = some (.cells #[.slice none 0 0, .slice none 0 0, .int .u64 x196002_1] 42 (0, 0))) := ⟨by rw [← hq_]; exact (by (with_reducible repeat (first | refine blk_drewN ?_ _ | refine blk_drew ?_ | refine blk_alloc ?_ _)); exact BK195.out)⟩; have n2_ : Aside0 (wr.heap[gb205]? = some (.cells #[.slice (some ad206) t202.length co11, .slice none 0 0, .int .u64 5] 42 (0, 0))) := ⟨by rw [← hq_]; exact (by (with_reducible repeat (first | refine blk_drewN ?_ _ | refine blk_drew ?_ | refine blk_alloc ?_ _)); exact BK205.out)⟩; have n3_ : Aside0 (Below w.heap.size w wr) := ⟨by rw [← hq_]; exact (by repeat (first | (with_reducible first | exact HB.out | apply below_alloc | apply pw_below_drewN | apply below_drew1 | refine below_set ?_ GE195.out | refine below_set ?_ GE205.out) | exact HB.out))⟩; clear HO_206000 BK195 BK205 HB hq_; have HO_206000 := n0_; have BK195 := n1_; have BK205 := n2_; have HB := n3_; clear n0_ n1_ n2_ n3_)); have hcz23_0 : wr.cell? ⟨gb195, 0, none⟩ = some (.slice none 0 0) := (blk_cell BK195.out 0).trans rfl; have hcz23_1 : wr.cell? ⟨gb195, 1, none⟩ = some (.slice none 0 0) := (blk_cell BK195.out 1).trans rfl; have hcz23_2 : wr.cell? ⟨gb195, 2, none⟩ = some (.int .u64 x196002_1) := (blk_cell BK195.out 2).trans rfl; have hfz23_0 := blk_frozen BK195.out 0; have hfz23_1 := blk_frozen BK195.out 1; have hfz23_2 := blk_frozen BK195.out 2))
      refine bodyPost_ret (results_ct rfl _ _ gb195 42 #[.slice none 0 0, .slice none 0 0, .int .u64 0] (0, 0) _ rfl (by (with_reducible repeat (first | refine blk_drewN ?_ _ | refine blk_drew ?_ | refine blk_alloc ?_ _)); refine blk_put (cs := #[.slice none 0 0, .slice none 0 0, .int .u64 x196002_1]) ?_ 2 _ rfl; (with_reducible repeat (first | refine blk_drewN ?_ _ | refine blk_drew ?_ | refine blk_alloc ?_ _)); refine blk_put (cs := #[.slice none 0 0, .slice none 0 0, .int .u64 x196002_1]) ?_ 1 _ rfl; (with_reducible repeat (first | refine blk_drewN ?_ _ | refine blk_drew ?_ | refine blk_alloc ?_ _)); refine blk_put (cs := #[.slice none 0 0, .slice none 0 0, .int .u64 x196002_1]) ?_ 0 _ rfl; (with_reducible repeat (first | refine blk_drewN ?_ _ | refine blk_drew ?_ | refine blk_alloc ?_ _)); exact BK195.out) Tryd.underlying42 rfl (by kernel_rfl)) rfl ?_
      exact ⟨_, _, by first | rfl | (simp [errW_none, errW_some] <;> rfl) | (simp [*, errW_none, errW_some] <;> rfl), by first | exact Kd.R_nil _ _ _ _ _ | exact Kd.N_nil _ _ _ _ _ | exact Kd.V_nil _ _ _ _ _ | exact Kd.Q_nil _ _ _ _ _ | exact Kd.S_nil _ _ _ _ _, by first | exact Kd.R_nil _ _ _ _ _ | exact Kd.N_nil _ _ _ _ _ | exact Kd.V_nil _ _ _ _ _ | exact Kd.Q_nil _ _ _ _ _ | exact Kd.S_nil _ _ _ _ _, by repeat (first | (with_reducible first | exact HB.out | apply below_alloc | apply pw_below_drewN | apply below_drew1 | refine below_set ?_ GE195.out | refine below_set ?_ GE205.out) | exact HB.out)⟩
    ·rw [if_neg c16] at H
     exact absurd H (by simp)
   ·rw [if_neg c15] at H
    have c15b0 : decide (x11_1 < (t202.length : Int)) = false := decide_eq_false c15
    clear c15
    replace H := Option.bind_eq_some_iff.mp H
    obtain ⟨t208, A240, H⟩ := H
    replace H : (lockkeeperref14_Read.l1 k1 t200 t208 0 t202 ([] : List ByteArray) 5) = some (r1, r2, r3, r4) := H
    have A24 := Aside0.mk A240
    clear A240
    have H' := Aside0.mk H
    clear H
    have hnb25 := NB205_195.out
    have hnc25 := NB195_205.out
    have hcz26_0 : wr.cell? ⟨gb205, 0, none⟩ = some (.slice Ao11 t202.length co11) := (blk_cell BK205.out 0).trans rfl
    have hcz26_1 : wr.cell? ⟨gb205, 1, none⟩ = some (.slice none 0 0) := (blk_cell BK205.out 1).trans rfl
    have hcz26_2 : wr.cell? ⟨gb205, 2, none⟩ = some (.int .u64 5) := (blk_cell BK205.out 2).trans rfl
    have hfz26_0 := blk_frozen BK205.out 0
    have hfz26_1 := blk_frozen BK205.out 1
    have hfz26_2 := blk_frozen BK205.out 2
    go_wp2_with (first | ((with_reducible refine gate_callee (f := 31) rfl ?_); refine goesL_ (some 50) rfl rfl Tryd.func31 (by kernel_rfl) rfl #[.string t198] rfl (by (try simp only [List.map_toArray, List.map_cons, List.map_nil]); first | done | rfl | (simp only [List.length_drop, List.length_take]; rfl)) ?_; (with_reducible refine (lockkeeperref1_Split.calls k1 t198 t208 _ A24.out).mono ?_); rintro e w27 ⟨v209, rfl, ho0, hb⟩; refine ⟨_, rfl, ?_⟩; have n0_ := Aside0.mk (Kd.R_elder' (by (with_reducible repeat (first | apply Kd.R_alloc | apply Kd.R_drewN | apply Kd.R_drew)); exact HO_206000.out) (Kd.R_base ho0) hb); have n1_ := Aside0.mk (Kd.R_lower (Kd.R_new' ho0 (Kd.R_lt (by (with_reducible repeat (first | apply Kd.R_alloc | apply Kd.R_drewN | apply Kd.R_drew)); exact HO_206000.out))) (below_size (by repeat (first | (with_reducible first | exact HB.out | apply below_alloc | apply pw_below_drewN | apply below_drew1 | refine below_set ?_ GE195.out | refine below_set ?_ GE205.out) | exact HB.out)))); have n2_ := Aside0.mk (blk_below (g := gb195) (o := .cells #[.slice none 0 0, .slice none 0 0, .int .u64 x196002_1] 42 (0, 0)) (by (with_reducible repeat (first | refine blk_drewN ?_ _ | refine blk_drew ?_ | refine blk_alloc ?_ _)); exact BK195.out) hb); have n3_ := Aside0.mk (blk_below (g := gb205) (o := .cells #[.slice Ao11 t202.length co11, .slice none 0 0, .int .u64 5] 42 (0, 0)) (by (with_reducible repeat (first | refine blk_drewN ?_ _ | refine blk_drew ?_ | refine blk_alloc ?_ _)); exact BK205.out) hb); have n4_ := Aside0.mk (below_step (by repeat (first | (with_reducible first | exact HB.out | apply below_alloc | apply pw_below_drewN | apply below_drew1 | refine below_set ?_ GE195.out | refine below_set ?_ GE205.out) | exact HB.out)) hb); clear HO_206000; clear BK195; clear BK205; clear HB; have HO_206000 := n0_; have HO210 := n1_; have BK195 := n2_; have BK205 := n3_; have HB := n4_; clear n0_ n1_ n2_ n3_ n4_; (try clear hb); (try clear hb2); (try clear hk); (try clear hi); (try clear ho0)))
    go_loopg [13] k1 (fun kq v13 w' => ∃ (x13_2 : Int) (x196002_2 : Int) (x206001_2 : List ByteArray) (u206001 : Value), v13 = .int .i64 x13_2 ∧ Aside0 (lockkeeperref14_Read.l1 kq t200 t208 x13_2 t202 x206001_2 5 = some (r1, r2, r3, r4)) ∧ Aside0 (kq ≤ k1) ∧ Aside0 (Kd.R Kd.string 9 w' w.heap.size (fun k_ => some k_ ≠ ((.slice Ao11 t202.length co11) : Value).ownBlock ∧ some k_ ≠ (u206001 : Value).ownBlock) v209 t208) ∧ Aside0 (Kd.R Kd.string 9 w' w.heap.size (fun k_ => some k_ ≠ (v209 : Value).ownBlock ∧ some k_ ≠ (u206001 : Value).ownBlock) (.slice Ao11 t202.length co11) t202) ∧ Aside0 (Kd.R Kd.string 9 w' w.heap.size (fun k_ => some k_ ≠ (v209 : Value).ownBlock ∧ some k_ ≠ ((.slice Ao11 t202.length co11) : Value).ownBlock) u206001 x206001_2) ∧ Aside0 (w'.heap[gb195]? = some (.cells #[(.slice none 0 0), (.slice none 0 0), .int .u64 x196002_2] 42 (0, 0))) ∧ Aside0 (w'.heap[gb205]? = some (.cells #[(.slice Ao11 t202.length co11), u206001, .int .u64 5] 42 (0, 0))) ∧ Aside0 (Below w.heap.size w w'))
    case atStart => exact ⟨(0), (x196002_1), (([] : List ByteArray)), (.slice none 0 0), (by first | rfl | (simp; done) | (simp [*]; done)), H', ⟨Nat.le_refl _⟩, ⟨by (with_reducible repeat (first | apply Kd.R_alloc | apply Kd.R_drewN | apply Kd.R_drew)); exact Kd.R_mono HO210.out (fun _ hk => ⟨hk.2, (by simp [Value.ownBlock])⟩)⟩, ⟨by (with_reducible repeat (first | apply Kd.R_alloc | apply Kd.R_drewN | apply Kd.R_drew)); exact Kd.R_mono HO_206000.out (fun _ hk => ⟨hk.2, (by simp [Value.ownBlock])⟩)⟩, ⟨by first | exact Kd.R_nil _ _ _ _ _ | exact Kd.N_nil _ _ _ _ _ | exact Kd.V_nil _ _ _ _ _ | exact Kd.Q_nil _ _ _ _ _ | exact Kd.S_nil _ _ _ _ _⟩, ⟨by (with_reducible repeat (first | refine blk_drewN ?_ _ | refine blk_drew ?_ | refine blk_alloc ?_ _)); exact BK195.out⟩, ⟨by (with_reducible repeat (first | refine blk_drewN ?_ _ | refine blk_drew ?_ | refine blk_alloc ?_ _)); exact BK205.out⟩, ⟨by repeat (first | (with_reducible first | exact HB.out | apply below_alloc | apply pw_below_drewN | apply below_drew1 | refine below_set ?_ GE195.out | refine below_set ?_ GE205.out) | exact HB.out)⟩⟩
    case round =>
     clear H'
     try clear c1
     try clear c2
     try clear p2
     try clear q2
     try clear hx2
     try clear c3
     try clear c4
     try clear p6
     try clear c13
     try clear c15
     try clear c15b0
     try clear c16
     try clear c16b0
     try clear c18
     try clear c19
     try clear p20
     try clear q20
     try clear hx20
     try clear c21
     try clear c25
     try clear c26
     try clear hcz14_0
     try clear hcz14_1
     try clear hcz14_2
     try clear hcz20_0
     try clear hcz20_1
     try clear hcz20_2
     try clear hcz22_0
     try clear hcz22_1
     try clear hcz22_2
     try clear hcz23_0
     try clear hcz23_1
     try clear hcz23_2
     try clear hcz26_0
     try clear hcz26_1
     try clear hcz26_2
     try clear hfz14_0
     try clear hfz14_1
     try clear hfz14_2
     try clear hfz20_0
     try clear hfz20_1
     try clear hfz20_2
     try clear hfz22_0
     try clear hfz22_1
     try clear hfz22_2
     try clear hfz23_0
     try clear hfz23_1
     try clear hfz23_2
     try clear hfz26_0
     try clear hfz26_1
     try clear hfz26_2
     try clear hx206_0
     try clear p2
     try clear p206
     try clear q206
     obtain ⟨x13_2, x196002_2, x206001_2, u206001, rfl, HA, HK2, HO_12, HO_206000, HO_206001, BK195, BK205, HB⟩ := hrel
     cases gk with
     | zero => exact absurd HA.out (by simp [lockkeeperref14_Read.l1])
     | succ k2 =>
      have H := HA.out
      clear HA
      simp only [lockkeeperref14_Read.l1] at H
      by_cases c28 : x13_2 < (t208.length : Int)
      ·rw [if_pos c28] at H
       have c28b0 : decide (x13_2 < (t208.length : Int)) = true := decide_eq_true c28
       clear c28
       by_cases c29 : 0 ≤ x13_2
       ·rw [if_pos c29] at H
        have c29b0 : decide (0 ≤ x13_2) = true := decide_eq_true c29
        clear c29
        replace H := Option.bind_eq_some_iff.mp H
        obtain ⟨t212, A300, H⟩ := H
        replace H : (if t212 = true then ((lockkeeperref1_Lower.f (rdOf ByteArray.empty t208 x13_2)).bind fun t214 => (if x206001_2.length < 8796093022208 then (lockkeeperref14_Read.l1 k2 t200 t208 (wrap64 (x13_2 + 1)) t202 (x206001_2 ++ [t214]) 5) else (none))) else (some (([] : List ByteArray), ([] : List ByteArray), 0, 6))) = some (r1, r2, r3, r4) := H
        have A30 := Aside0.mk A300
        clear A300
        by_cases c31 : t212 = true
        ·subst c31
         have H1 : ((lockkeeperref1_Lower.f (rdOf ByteArray.empty t208 x13_2)).bind fun t214 => (if x206001_2.length < 8796093022208 then (lockkeeperref14_Read.l1 k2 t200 t208 (wrap64 (x13_2 + 1)) t202 (x206001_2 ++ [t214]) 5) else (none))) = some (r1, r2, r3, r4) := by rw [if_pos rfl] at H; exact H
         clear H
         have H := H1
         clear H1
         replace H := Option.bind_eq_some_iff.mp H
         obtain ⟨t214, A320, H⟩ := H
         replace H : (if x206001_2.length < 8796093022208 then (lockkeeperref14_Read.l1 k2 t200 t208 (wrap64 (x13_2 + 1)) t202 (x206001_2 ++ [t214]) 5) else (none)) = some (r1, r2, r3, r4) := H
         have A32 := Aside0.mk A320
         clear A320
         by_cases c33 : x206001_2.length < 8796093022208
         ·rw [if_pos c33] at H
          have LMc33 := Aside0.mk c33
          clear c33
          obtain ⟨y215, hy215⟩ : ∃ y_ : List ByteArray, y_ = (x206001_2 ++ [t214]) := ⟨_, rfl⟩
          replace H : (lockkeeperref14_Read.l1 k2 t200 t208 (wrap64 (x13_2 + 1)) t202 y215 5) = some (r1, r2, r3, r4) := by first | (rw [hy215]; with_reducible exact H) | (have H2_ := (Option.bind_some _ _).symm.trans H; rw [hy215]; with_reducible exact H2_) | (have H2_ := (Option.bind_some _ _).symm.trans H; with_reducible exact H2_) | with_reducible exact H | (rw [hy215]; exact H) | exact H
          have Ny215 := Aside0.mk hy215
          clear hy215
          have H' := Aside0.mk H
          clear H
          obtain ⟨Ao34, co34, eo34⟩ := Kd.R_slice HO_12.out
          subst eo34
          have p211 : 0 ≤ (x13_2 : Int) := of_decide_eq_true (by first | (with_reducible assumption) | assumption)
          have q211 : x13_2 < (t208.length : Int) := of_decide_eq_true (by first | (with_reducible assumption) | assumption)
          obtain ⟨ad211, e211, hx211_0⟩ := Kd.at_string (Kd.R_reads' HO_12.out).2.2 x13_2 p211 q211
          cases e211
          replace p211 := eq_true p211
          replace q211 := eq_true q211
          try go_wp2_with (first | ((with_reducible refine gate_callee (f := 41) rfl ?_); refine goesL_ (some 61) rfl rfl Tryd.func41 (by kernel_rfl) rfl #[.string (rdOf ByteArray.empty t208 x13_2)] rfl (by (try simp only [List.map_toArray, List.map_cons, List.map_nil]); first | done | rfl | (simp only [List.length_drop, List.length_take]; rfl)) ?_; (with_reducible refine (lockkeeperref1_Token.calls k2 (rdOf ByteArray.empty t208 x13_2) true _ A30.out).mono ?_); rintro e w' ⟨rfl, ⟨nd, rfl⟩⟩; refine ⟨_, rfl, ?_⟩; (try (rw [drewN_self wr]; generalize hq_ : World.drewN wr _ = wr; have n0_ : Aside0 (Kd.R Kd.string 9 wr w.heap.size (fun k_ => some k_ ≠ (.slice Ao11 t202.length co11 : Value).ownBlock ∧ some k_ ≠ (u206001 : Value).ownBlock) (.slice (some ad211) t208.length co34) t208) := ⟨by rw [← hq_]; exact (by (with_reducible repeat (first | apply Kd.R_alloc | apply Kd.R_drewN | apply Kd.R_drew)); exact HO_12.out)⟩; have n1_ : Aside0 (Kd.R Kd.string 9 wr w.heap.size (fun k_ => some k_ ≠ (.slice (some ad211) t208.length co34 : Value).ownBlock ∧ some k_ ≠ (u206001 : Value).ownBlock) (.slice Ao11 t202.length co11) t202) := ⟨by rw [← hq_]; exact (by (with_reducible repeat (first | apply Kd.R_alloc | apply Kd.R_drewN | apply Kd.R_drew)); exact HO_206000.out)⟩; have n2_ : Aside0 (Kd.R Kd.string 9 wr w.heap.size (fun k_ => some k_ ≠ (.slice (some ad211) t208.length co34 : Value).ownBlock ∧ some k_ ≠ (.slice Ao11 t202.length co11 : Value).ownBlock) u206001 x206001_2) := ⟨by rw [← hq_]; exact (by (with_reducible repeat (first | apply Kd.R_alloc | apply Kd.R_drewN | apply Kd.R_drew)); exact HO_206001.out)⟩; have n3_ : Aside0 (wr.heap[gb195]? = some (.cells #[.slice none 0 0, .slice none 0 0, .int .u64 x196002_2] 42 (0, 0))) := ⟨by rw [← hq_]; exact (by (with_reducible repeat (first | refine blk_drewN ?_ _ | refine blk_drew ?_ | refine blk_alloc ?_ _)); exact BK195.out)⟩; have n4_ : Aside0 (wr.heap[gb205]? = some (.cells #[.slice Ao11 t202.length co11, u206001, .int .u64 5] 42 (0, 0))) := ⟨by rw [← hq_]; exact (by (with_reducible repeat (first | refine blk_drewN ?_ _ | refine blk_drew ?_ | refine blk_alloc ?_ _)); exact BK205.out)⟩; have n5_ : Aside0 (Below w.heap.size w wr) := ⟨by rw [← hq_]; exact (by repeat (first | (with_reducible first | exact HB.out | apply below_alloc | apply pw_below_drewN | apply below_drew1 | refine below_set ?_ GE195.out | refine below_set ?_ GE205.out) | exact HB.out))⟩; clear HO_12 HO_206000 HO_206001 BK195 BK205 HB hq_; have HO_12 := n0_; have HO_206000 := n1_; have HO_206001 := n2_; have BK195 := n3_; have BK205 := n4_; have HB := n5_; clear n0_ n1_ n2_ n3_ n4_ n5_))))
          have n0_ := Aside0.mk (Kd.R_drew HO_12.out)
          have n1_ := Aside0.mk (Kd.R_drew HO_206000.out)
          have n2_ := Aside0.mk (Kd.R_drew HO_206001.out)
          have n3_ := Aside0.mk (blk_drew BK195.out)
          have n4_ := Aside0.mk (blk_drew BK205.out)
          have n5_ := Aside0.mk (below_drew1 HB.out)
          clear HO_12
          clear HO_206000
          clear HO_206001
          clear BK195
          clear BK205
          clear HB
          have HO_12 := n0_
          have HO_206000 := n1_
          have HO_206001 := n2_
          have BK195 := n3_
          have BK205 := n4_
          have HB := n5_
          clear n0_ n1_ n2_ n3_ n4_ n5_
          have p213 : 0 ≤ (x13_2 : Int) := of_decide_eq_true (by first | (with_reducible assumption) | assumption)
          have q213 : x13_2 < (t208.length : Int) := of_decide_eq_true (by first | (with_reducible assumption) | assumption)
          obtain ⟨ad213, e213, hx213_0⟩ := Kd.at_string (Kd.R_reads' HO_12.out).2.2 x13_2 p213 q213
          obtain rfl : ad211 = ad213 := (by injection e213)
          replace p213 := eq_true p213
          replace q213 := eq_true q213
          refine start_ (n := 11) (S := fun w' => w'.cell? ⟨gb205, 0, none⟩ = some (.slice Ao11 t202.length co11) ∧ w'.cell? ⟨gb205, 1, none⟩ = some (u206001) ∧ w'.cell? ⟨gb205, 2, none⟩ = some (.int .u64 5) ∧ w'.cell? (ad211.add (x13_2).toNat) = some (.string (rdOf ByteArray.empty t208 x13_2))) (ds := [8, 10]) #[false, false, false, false, false, false, false, false, false, false, false] (by kernel_rfl) rfl rfl ⟨(blk_cell BK205.out 0).trans rfl, (blk_cell BK205.out 1).trans rfl, (blk_cell BK205.out 2).trans rfl, hx213_0⟩ (fun hHeld => ?_); refine with_tabW lockkeeperref14_Read.tab16 lockkeeperref14_Read.bits16 (fun HT_ HW_ => ?_)
          generalize wr.drew = w35 at HO_12 HO_206000 HO_206001 BK195 BK205 HB hx213_0 hHeld ⊢
          refine pure_ (i := 0) (N := some 64) (v := ?_) (a' := ?_) #[true, false, false, false, false, false, false, false, false, false, false] rfl rfl (any_of HT_.out (by kernel_rfl)) (fun _ _ _ h => h) (Or.inl ⟨by rfl, ?_⟩) ?_ ?_
          rotate_left
          ·intro w'
           go_simp
           with_reducible rfl
          rotate_left
          ·simp only [Act.put, List.setIfInBounds_toArray, List.set_cons_zero, List.set_cons_succ, i64_w, i32_w]
           rfl
          refine pure_ (i := 2) (N := some 66) (v := ?_) (a' := ?_) #[true, false, true, false, false, false, false, false, false, false, false] rfl rfl (any_of HT_.out (by kernel_rfl)) (fun _ _ _ h => h) (Or.inl ⟨by rfl, ?_⟩) ?_ ?_
          rotate_left
          ·intro w'
           go_simp
           with_reducible rfl
          rotate_left
          ·simp only [Act.put, List.setIfInBounds_toArray, List.set_cons_zero, List.set_cons_succ, i64_w, i32_w]
           rfl
          refine pure_ (i := 3) (N := some 67) (v := ?_) (a' := ?_) #[true, false, true, true, false, false, false, false, false, false, false] rfl rfl (any_of HT_.out (by kernel_rfl)) (fun _ _ _ h => h) (Or.inl ⟨by rfl, ?_⟩) ?_ ?_
          rotate_left
          ·intro w'
           go_simp
           with_reducible rfl
          rotate_left
          ·simp only [Act.put, List.setIfInBounds_toArray, List.set_cons_zero, List.set_cons_succ, i64_w, i32_w]
           rfl
          refine pure_ (i := 4) (N := some 68) (v := ?_) (a' := ?_) #[true, false, true, true, true, false, false, false, false, false, false] rfl rfl (any_of HT_.out (by kernel_rfl)) (fun _ _ _ h => h) (Or.inl ⟨by rfl, ?_⟩) ?_ ?_
          rotate_left
          ·intro w'
           go_simp
           with_reducible rfl
          rotate_left
          ·simp only [Act.put, List.setIfInBounds_toArray, List.set_cons_zero, List.set_cons_succ, i64_w, i32_w]
           rfl
          refine take_ (i := 1) (N := some 65) (v := ?_) (a' := ?_) #[true, true, true, true, true, false, false, false, false, false, false] rfl rfl (take_ofW HT_.out HW_.out (by kernel_rfl)) (fun _ _ _ h => h) (Or.inl ⟨by rfl, ?_⟩) hHeld ?_ ?_
          rotate_left
          ·rintro w' ⟨s0, s1, s2, s3⟩
           go_simp
           with_reducible rfl
          rotate_left
          ·simp only [Act.put, List.setIfInBounds_toArray, List.set_cons_zero, List.set_cons_succ, i64_w, i32_w]
           rfl
          refine take_ (i := 5) (N := some 69) (v := ?_) (a' := ?_) #[true, true, true, true, true, true, false, false, false, false, false] rfl rfl (take_ofW HT_.out HW_.out (by kernel_rfl)) (fun _ _ _ h => h) (Or.inl ⟨by rfl, ?_⟩) hHeld ?_ ?_
          rotate_left
          ·rintro w' ⟨s0, s1, s2, s3⟩
           go_simp
           with_reducible rfl
          rotate_left
          ·simp only [Act.put, List.setIfInBounds_toArray, List.set_cons_zero, List.set_cons_succ, i64_w, i32_w]
           rfl
          refine one_ (i := 6) (N := some 70) #[true, true, true, true, true, true, true, false, false, false, false] rfl rfl (one_of HT_.out (by kernel_rfl)) (by decide) (fun K hK => ?_)
          refine goes_ Tryd.func42 (by kernel_rfl) rfl #[.string (rdOf ByteArray.empty t208 x13_2)] (by rfl) rfl rfl (by (try simp only [List.map_toArray, List.map_cons, List.map_nil]); first | done | rfl | (simp only [List.length_drop, List.length_take]; rfl)) ?_
          with_reducible refine (lockkeeperref1_Lower.calls (rdOf ByteArray.empty t208 x13_2) t214 _ A32.out).mono ?_
          rintro e w36 ⟨rfl, hb⟩
          have HS3_ := (hb.cell (World.block_lt_of_cell? _ _ (hHeld.2.2.2))).trans (hHeld.2.2.2)
          refine ⟨_, rfl, ?_⟩
          have n0_ := Aside0.mk (Kd.R_below (by (with_reducible repeat (first | apply Kd.R_alloc | apply Kd.R_drewN | apply Kd.R_drew)); exact HO_12.out) hb)
          have n1_ := Aside0.mk (Kd.R_below (by (with_reducible repeat (first | apply Kd.R_alloc | apply Kd.R_drewN | apply Kd.R_drew)); exact HO_206000.out) hb)
          have n2_ := Aside0.mk (Kd.R_below (by (with_reducible repeat (first | apply Kd.R_alloc | apply Kd.R_drewN | apply Kd.R_drew)); exact HO_206001.out) hb)
          have n3_ := Aside0.mk (blk_below (g := gb195) (o := .cells #[.slice none 0 0, .slice none 0 0, .int .u64 x196002_2] 42 (0, 0)) (by (with_reducible repeat (first | refine blk_drewN ?_ _ | refine blk_drew ?_ | refine blk_alloc ?_ _)); exact BK195.out) hb)
          have n4_ := Aside0.mk (blk_below (g := gb205) (o := .cells #[.slice Ao11 t202.length co11, u206001, .int .u64 5] 42 (0, 0)) (by (with_reducible repeat (first | refine blk_drewN ?_ _ | refine blk_drew ?_ | refine blk_alloc ?_ _)); exact BK205.out) hb)
          have n5_ := Aside0.mk (below_step (by repeat (first | (with_reducible first | exact HB.out | apply below_alloc | apply pw_below_drewN | apply below_drew1 | refine below_set ?_ GE195.out | refine below_set ?_ GE205.out) | exact HB.out)) hb)
          clear HO_12
          clear HO_206000
          clear HO_206001
          clear BK195
          clear BK205
          clear HB
          have HO_12 := n0_
          have HO_206000 := n1_
          have HO_206001 := n2_
          have BK195 := n3_
          have BK205 := n4_
          have HB := n5_
          clear n0_ n1_ n2_ n3_ n4_ n5_
          (try clear hb)
          (try clear hb2)
          (try clear hk)
          (try clear hi)
          refine hK.out _ _ ⟨(blk_cell BK205.out 0).trans rfl, (blk_cell BK205.out 1).trans rfl, (blk_cell BK205.out 2).trans rfl, HS3_⟩ (fun hHeld => ?_)
          clear hK K
          refine norm_ (a' := ?_) ?_ ?_
          rotate_left
          ·show Act.put _ (some 70) _ = _
           simp only [Act.put, List.setIfInBounds_toArray, List.set_cons_zero, List.set_cons_succ, i64_w, i32_w]
           rfl
          refine one_ (i := 7) (N := some 71) #[true, true, true, true, true, true, true, true, false, false, false] rfl rfl (one_of HT_.out (by kernel_rfl)) (by decide) (fun K hK => ?_)
          refine value_ (w1 := ?_) (v := ?_) (by rfl) rfl ?_ ?_
          rotate_left 2
          ·go_simp
           constructor
           ·rfl
           ·rfl
          refine hK.out _ _ ⟨(blk_cell (blk_alloc BK205.out _) 0).trans rfl, (blk_cell (blk_alloc BK205.out _) 1).trans rfl, (blk_cell (blk_alloc BK205.out _) 2).trans rfl, (World.cell?_alloc_lt _ _ _ (World.block_lt_of_cell? _ _ (hHeld.2.2.2))).trans (hHeld.2.2.2)⟩ (fun hHeld => ?_)
          clear hK K
          refine norm_ (a' := ?_) ?_ ?_
          rotate_left
          ·show Act.put _ (some 71) _ = _
           simp only [Act.put, List.setIfInBounds_toArray, List.set_cons_zero, List.set_cons_succ, i64_w, i32_w]
           rfl
          refine last_ (i := 8) (N := some 72) #[true, true, true, true, true, true, true, true, true, false, false] rfl rfl (one_of HT_.out (by kernel_rfl)) (by decide) (fun K hK => ?_)
          refine Kd.R_append_step Kd.string (w0 := w) w.heap.size (by rfl) (.tmp 65) (.tmp 71) 39 9 (.string ⟨#[]⟩) 16 rfl Tryd.underlying39 info9 rfl (by decide) (by omega) u206001 x206001_2 t214 [.string t214] (fun k_ => some k_ ≠ (.slice (some ad211) t208.length co34 : Value).ownBlock ∧ some k_ ≠ (.slice Ao11 t202.length co11 : Value).ownBlock) (fun _ => False) rfl rfl ?aP (fun _ hk => hk.elim) ?aF ?aO ?aB ?aS ?aL ?_
          (case aP => exact rfl)
          (case aB => exact (by repeat (first | (with_reducible first | exact HB.out | apply below_alloc | apply pw_below_drewN | apply below_drew1 | refine below_set ?_ GE195.out | refine below_set ?_ GE205.out) | exact HB.out)))
          (case aF => exact (fun k_ hk => ⟨Kd.fresh' (Kd.R_lt (by (with_reducible repeat (first | apply Kd.R_alloc | apply Kd.R_drewN | apply Kd.R_drew)); exact HO_12.out)) k_ hk, Kd.fresh' (Kd.R_lt (by (with_reducible repeat (first | apply Kd.R_alloc | apply Kd.R_drewN | apply Kd.R_drew)); exact HO_206000.out)) k_ hk⟩))
          (case aO => exact (by (with_reducible repeat (first | apply Kd.R_alloc | apply Kd.R_drewN | apply Kd.R_drew)); exact HO_206001.out))
          (case aS => exact (below_size (by repeat (first | (with_reducible first | exact HB.out | apply below_alloc | apply pw_below_drewN | apply below_drew1 | refine below_set ?_ GE195.out | refine below_set ?_ GE205.out) | exact HB.out))))
          (case aL => have := LMc33.out; omega)
          intro v216 w37 ho hb hg hat
          rw [← Ny215.out] at ho
          have n0_ := Aside0.mk (Kd.R_after (ok := (fun k_ => some k_ ≠ (.slice Ao11 t202.length co11 : Value).ownBlock)) (by (with_reducible repeat (first | apply Kd.R_alloc | apply Kd.R_drewN | apply Kd.R_drew)); exact HO_12.out) hg hat)
          have n1_ := Aside0.mk (Kd.R_after (ok := (fun k_ => some k_ ≠ (.slice (some ad211) t208.length co34 : Value).ownBlock)) (by (with_reducible repeat (first | apply Kd.R_alloc | apply Kd.R_drewN | apply Kd.R_drew)); exact HO_206000.out) hg hat)
          have n2_ := Aside0.mk (blk_grown (g := gb195) (o := .cells #[.slice none 0 0, .slice none 0 0, .int .u64 x196002_2] 42 (0, 0)) (by (with_reducible repeat (first | refine blk_drewN ?_ _ | refine blk_drew ?_ | refine blk_alloc ?_ _)); exact BK195.out) hg (Kd.R_ne HO_206001.out BK195.out (by decide)))
          have n3_ := Aside0.mk (blk_grown (g := gb205) (o := .cells #[.slice Ao11 t202.length co11, u206001, .int .u64 5] 42 (0, 0)) (by (with_reducible repeat (first | refine blk_drewN ?_ _ | refine blk_drew ?_ | refine blk_alloc ?_ _)); exact BK205.out) hg (Kd.R_ne HO_206001.out BK205.out (by decide)))
          have n4_ := Aside0.mk (hb)
          have n5_ := Aside0.mk (ho)
          clear HO_12
          clear HO_206000
          clear BK195
          clear BK205
          clear HB
          clear HO_206001
          have HO_12 := n0_
          have HO_206000 := n1_
          have BK195 := n2_
          have BK205 := n3_
          have HB := n4_
          have HO217 := n5_
          clear n0_ n1_ n2_ n3_ n4_ n5_
          clear ho hb hg hat
          obtain ⟨Ao38, co38, eo38⟩ := Kd.R_slice HO217.out
          (first | subst eo38 | (injection eo38 with f1_ f2_ f3_; have f4_ := f1_.symm; have f5_ := f3_.symm; clear f1_ f2_ f3_; subst f4_; subst f5_))
          refine hK.out _ _ ?_
          clear hK K
          refine norm_ (a' := ?_) ?_ ?_
          rotate_left
          ·show Act.put _ (some 72) _ = _
           simp only [Act.put, List.setIfInBounds_toArray, List.set_cons_zero, List.set_cons_succ, i64_w, i32_w]
           rfl
          refine pure_ (i := 9) (N := some 73) (v := ?_) (a' := ?_) #[true, true, true, true, true, true, true, true, true, true, false] rfl rfl (any_of HT_.out (by kernel_rfl)) (fun _ _ _ h => h) (Or.inl ⟨by rfl, ?_⟩) ?_ ?_
          rotate_left
          ·intro w'
           go_simp
           with_reducible rfl
          rotate_left
          ·simp only [Act.put, List.setIfInBounds_toArray, List.set_cons_zero, List.set_cons_succ, i64_w, i32_w]
           rfl
          refine last_ (i := 10) (N := none) #[true, true, true, true, true, true, true, true, true, true, true] rfl rfl (one_of HT_.out (by kernel_rfl)) (by decide) (fun K hK => ?_)
          have hs39 : w37.cell? ⟨gb205, 1, none⟩ = some (u206001) := (blk_cell BK205.out 1).trans rfl
          have hfs39 := blk_frozen BK205.out 1
          have hns39_0 := NB195_205.out
          have hms39_0 := NB205_195.out
          refine skip_ (w1 := ?_) (by rfl) rfl ?_ ?_
          rotate_left
          ·go_simp
           rfl
          refine hK.out _ _ ?_
          clear hK K
          refine done_ (done_of HT_.out (by kernel_rfl)) ?_
          try go_wp2
          go_roundg k2
          case measure => have := HK1.out; have := HK2.out; omega
          case rel => exact ⟨(wrap64 (x13_2 + 1)), (x196002_2), (y215), (.slice Ao38 y215.length co38), (by first | rfl | (simp; done) | (simp [*]; done)), H', ⟨by have := HK1.out; have := HK2.out; omega⟩, ⟨by (with_reducible repeat (first | apply Kd.R_alloc | apply Kd.R_drewN | apply Kd.R_drew)); exact Kd.R_mono (Kd.R_far (p := ⟨gb205, 1, none⟩) (Kd.R_types HO_12.out BK205.out (by decide)) (fun _ hk => hk.2) (.slice Ao38 y215.length co38)) (fun _ hk => ⟨hk.1.1, hk.1.2⟩)⟩, ⟨by (with_reducible repeat (first | apply Kd.R_alloc | apply Kd.R_drewN | apply Kd.R_drew)); exact Kd.R_mono (Kd.R_far (p := ⟨gb205, 1, none⟩) (Kd.R_types HO_206000.out BK205.out (by decide)) (fun _ hk => hk.2) (.slice Ao38 y215.length co38)) (fun _ hk => ⟨hk.1.1, hk.1.2⟩)⟩, ⟨by (with_reducible repeat (first | apply Kd.R_alloc | apply Kd.R_drewN | apply Kd.R_drew)); exact Kd.R_mono (Kd.R_far (p := ⟨gb205, 1, none⟩) (Kd.R_types HO217.out BK205.out (by decide)) (fun _ hk => hk.2) (.slice Ao38 y215.length co38)) (fun _ hk => ⟨hk.1.1, hk.1.2⟩)⟩, ⟨by (with_reducible repeat (first | refine blk_drewN ?_ _ | refine blk_drew ?_ | refine blk_alloc ?_ _)); refine blk_far ?_ NB195_205.out _; (with_reducible repeat (first | refine blk_drewN ?_ _ | refine blk_drew ?_ | refine blk_alloc ?_ _)); exact BK195.out⟩, ⟨by (with_reducible repeat (first | refine blk_drewN ?_ _ | refine blk_drew ?_ | refine blk_alloc ?_ _)); refine blk_put (cs := #[.slice Ao11 t202.length co11, u206001, .int .u64 5]) ?_ 1 _ rfl; (with_reducible repeat (first | refine blk_drewN ?_ _ | refine blk_drew ?_ | refine blk_alloc ?_ _)); exact BK205.out⟩, ⟨by repeat (first | (with_reducible first | exact HB.out | apply below_alloc | apply pw_below_drewN | apply below_drew1 | refine below_set ?_ GE195.out | refine below_set ?_ GE205.out) | exact HB.out)⟩⟩
         ·rw [if_neg c33] at H
          exact absurd H (by simp)
        ·replace c31 := Bool.eq_false_iff.mpr c31
         subst c31
         have H1 : (some (([] : List ByteArray), ([] : List ByteArray), 0, 6)) = some (r1, r2, r3, r4) := by rw [if_neg (show ¬ (false = true) by decide)] at H; exact H
         clear H
         have H := H1
         clear H1
         simp only [Option.some.injEq, Prod.mk.injEq] at H
         obtain ⟨rfl, rfl, rfl, rfl⟩ := H
         obtain ⟨Ao40, co40, eo40⟩ := Kd.R_slice HO_12.out
         subst eo40
         have p211 : 0 ≤ (x13_2 : Int) := of_decide_eq_true (by first | (with_reducible assumption) | assumption)
         have q211 : x13_2 < (t208.length : Int) := of_decide_eq_true (by first | (with_reducible assumption) | assumption)
         obtain ⟨ad211, e211, hx211_0⟩ := Kd.at_string (Kd.R_reads' HO_12.out).2.2 x13_2 p211 q211
         cases e211
         replace p211 := eq_true p211
         replace q211 := eq_true q211
         go_wp2_with (first | ((with_reducible refine gate_callee (f := 41) rfl ?_); refine goesL_ (some 61) rfl rfl Tryd.func41 (by kernel_rfl) rfl #[.string (rdOf ByteArray.empty t208 x13_2)] rfl (by (try simp only [List.map_toArray, List.map_cons, List.map_nil]); first | done | rfl | (simp only [List.length_drop, List.length_take]; rfl)) ?_; (with_reducible refine (lockkeeperref1_Token.calls k2 (rdOf ByteArray.empty t208 x13_2) false _ A30.out).mono ?_); rintro e w' ⟨rfl, ⟨nd, rfl⟩⟩; refine ⟨_, rfl, ?_⟩; (try (rw [drewN_self wr]; generalize hq_ : World.drewN wr _ = wr; have n0_ : Aside0 (Kd.R Kd.string 9 wr w.heap.size (fun k_ => some k_ ≠ (.slice Ao11 t202.length co11 : Value).ownBlock ∧ some k_ ≠ (u206001 : Value).ownBlock) (.slice (some ad211) t208.length co40) t208) := ⟨by rw [← hq_]; exact (by (with_reducible repeat (first | apply Kd.R_alloc | apply Kd.R_drewN | apply Kd.R_drew)); exact HO_12.out)⟩; have n1_ : Aside0 (Kd.R Kd.string 9 wr w.heap.size (fun k_ => some k_ ≠ (.slice (some ad211) t208.length co40 : Value).ownBlock ∧ some k_ ≠ (u206001 : Value).ownBlock) (.slice Ao11 t202.length co11) t202) := ⟨by rw [← hq_]; exact (by (with_reducible repeat (first | apply Kd.R_alloc | apply Kd.R_drewN | apply Kd.R_drew)); exact HO_206000.out)⟩; have n2_ : Aside0 (Kd.R Kd.string 9 wr w.heap.size (fun k_ => some k_ ≠ (.slice (some ad211) t208.length co40 : Value).ownBlock ∧ some k_ ≠ (.slice Ao11 t202.length co11 : Value).ownBlock) u206001 x206001_2) := ⟨by rw [← hq_]; exact (by (with_reducible repeat (first | apply Kd.R_alloc | apply Kd.R_drewN | apply Kd.R_drew)); exact HO_206001.out)⟩; have n3_ : Aside0 (wr.heap[gb195]? = some (.cells #[.slice none 0 0, .slice none 0 0, .int .u64 x196002_2] 42 (0, 0))) := ⟨by rw [← hq_]; exact (by (with_reducible repeat (first | refine blk_drewN ?_ _ | refine blk_drew ?_ | refine blk_alloc ?_ _)); exact BK195.out)⟩; have n4_ : Aside0 (wr.heap[gb205]? = some (.cells #[.slice Ao11 t202.length co11, u206001, .int .u64 5] 42 (0, 0))) := ⟨by rw [← hq_]; exact (by (with_reducible repeat (first | refine blk_drewN ?_ _ | refine blk_drew ?_ | refine blk_alloc ?_ _)); exact BK205.out)⟩; have n5_ : Aside0 (Below w.heap.size w wr) := ⟨by rw [← hq_]; exact (by repeat (first | (with_reducible first | exact HB.out | apply below_alloc | apply pw_below_drewN | apply below_drew1 | refine below_set ?_ GE195.out | refine below_set ?_ GE205.out) | exact HB.out))⟩; clear HO_12 HO_206000 HO_206001 BK195 BK205 HB hq_; have HO_12 := n0_; have HO_206000 := n1_; have HO_206001 := n2_; have BK195 := n3_; have BK205 := n4_; have HB := n5_; clear n0_ n1_ n2_ n3_ n4_ n5_)); have hnb41 := NB195_205.out; have hnc41 := NB205_195.out; have hcz42_0 : wr.cell? ⟨gb195, 0, none⟩ = some (.slice none 0 0) := (blk_cell BK195.out 0).trans rfl; have hcz42_1 : wr.cell? ⟨gb195, 1, none⟩ = some (.slice none 0 0) := (blk_cell BK195.out 1).trans rfl; have hcz42_2 : wr.cell? ⟨gb195, 2, none⟩ = some (.int .u64 x196002_2) := (blk_cell BK195.out 2).trans rfl; have hfz42_0 := blk_frozen BK195.out 0; have hfz42_1 := blk_frozen BK195.out 1; have hfz42_2 := blk_frozen BK195.out 2))
         refine bodyPost_ret (results_ct rfl _ _ gb195 42 #[.slice none 0 0, .slice none 0 0, .int .u64 0] (0, 0) _ rfl (by (with_reducible repeat (first | refine blk_drewN ?_ _ | refine blk_drew ?_ | refine blk_alloc ?_ _)); refine blk_put (cs := #[.slice none 0 0, .slice none 0 0, .int .u64 x196002_2]) ?_ 2 _ rfl; (with_reducible repeat (first | refine blk_drewN ?_ _ | refine blk_drew ?_ | refine blk_alloc ?_ _)); refine blk_put (cs := #[.slice none 0 0, .slice none 0 0, .int .u64 x196002_2]) ?_ 1 _ rfl; (with_reducible repeat (first | refine blk_drewN ?_ _ | refine blk_drew ?_ | refine blk_alloc ?_ _)); refine blk_put (cs := #[.slice none 0 0, .slice none 0 0, .int .u64 x196002_2]) ?_ 0 _ rfl; (with_reducible repeat (first | refine blk_drewN ?_ _ | refine blk_drew ?_ | refine blk_alloc ?_ _)); exact BK195.out) Tryd.underlying42 rfl (by kernel_rfl)) rfl ?_
         exact ⟨_, _, by first | rfl | (simp [errW_none, errW_some] <;> rfl) | (simp [*, errW_none, errW_some] <;> rfl), by first | exact Kd.R_nil _ _ _ _ _ | exact Kd.N_nil _ _ _ _ _ | exact Kd.V_nil _ _ _ _ _ | exact Kd.Q_nil _ _ _ _ _ | exact Kd.S_nil _ _ _ _ _, by first | exact Kd.R_nil _ _ _ _ _ | exact Kd.N_nil _ _ _ _ _ | exact Kd.V_nil _ _ _ _ _ | exact Kd.Q_nil _ _ _ _ _ | exact Kd.S_nil _ _ _ _ _, by repeat (first | (with_reducible first | exact HB.out | apply below_alloc | apply pw_below_drewN | apply below_drew1 | refine below_set ?_ GE195.out | refine below_set ?_ GE205.out) | exact HB.out)⟩
       ·rw [if_neg c29] at H
        exact absurd H (by simp)
      ·rw [if_neg c28] at H
       have c28b0 : decide (x13_2 < (t208.length : Int)) = false := decide_eq_false c28
       clear c28
       replace H := Option.bind_eq_some_iff.mp H
       obtain ⟨t218, A430, H⟩ := H
       replace H : ((lockkeeperref1_Digits.f k2 t218).bind fun bt219 => (if bt219.2 = true then (some (t202, x206001_2, mn bt219.1 7200, 0)) else (some (t202, x206001_2, 5, 0)))) = some (r1, r2, r3, r4) := H
       have A43 := Aside0.mk A430
       clear A430
       replace H := Option.bind_eq_some_iff.mp H
       obtain ⟨⟨t219, t220⟩, A440, H⟩ := H
       replace H : (if t220 = true then (some (t202, x206001_2, mn t219 7200, 0)) else (some (t202, x206001_2, 5, 0))) = some (r1, r2, r3, r4) := H
       have A44 := Aside0.mk A440
       clear A440
       by_cases c45 : t220 = true
       ·subst c45
        have H1 : (some (t202, x206001_2, mn t219 7200, 0)) = some (r1, r2, r3, r4) := by rw [if_pos rfl] at H; exact H
        clear H
        have H := H1
        clear H1
        obtain ⟨ji46, hji46⟩ : ∃ j_ : Int, (mn t219 7200) = j_ := ⟨_, rfl⟩
        replace H : (some (t202, x206001_2, ji46, 0)) = some (r1, r2, r3, r4) := by first | (rw [hji46] at H; exact H) | (simp only [hji46] at H ⊢; exact H)
        (try rw [hji46] at A43)
        (try rw [hji46] at A44)
        (try (have hji46h : ji46 ≤ 7200 := by (rw [← hji46]; unfold mn; (repeat' split) <;> omega)))
        (try (have hji46g : ji46 ≤ 64 := by omega))
        have hji46_ : (if 7200 < t219 then 7200 else t219) = ji46 := hji46
        simp only [Option.some.injEq, Prod.mk.injEq] at H
        obtain ⟨rfl, rfl, rfl, rfl⟩ := H
        obtain ⟨Ao47, co47, eo47⟩ := Kd.R_slice HO_12.out
        subst eo47
        go_wp2_with (first | ((with_reducible refine gate_callee (f := 44) rfl ?_); refine goesL_ (some 76) rfl rfl Tryd.func44 (by kernel_rfl) rfl #[.string t200] rfl (by (try simp only [List.map_toArray, List.map_cons, List.map_nil]); first | done | rfl | (simp only [List.length_drop, List.length_take]; rfl)) ?_; (with_reducible refine (lockkeeperref1_Trim.calls k2 t200 t218 _ A43.out).mono ?_); rintro e w' ⟨rfl, ⟨nd, rfl⟩⟩; refine ⟨_, rfl, ?_⟩; (try (rw [drewN_self wr]; generalize hq_ : World.drewN wr _ = wr; have n0_ : Aside0 (Kd.R Kd.string 9 wr w.heap.size (fun k_ => some k_ ≠ (.slice Ao11 t202.length co11 : Value).ownBlock ∧ some k_ ≠ (u206001 : Value).ownBlock) (.slice Ao47 t208.length co47) t208) := ⟨by rw [← hq_]; exact (by (with_reducible repeat (first | apply Kd.R_alloc | apply Kd.R_drewN | apply Kd.R_drew)); exact HO_12.out)⟩; have n1_ : Aside0 (Kd.R Kd.string 9 wr w.heap.size (fun k_ => some k_ ≠ (.slice Ao47 t208.length co47 : Value).ownBlock ∧ some k_ ≠ (u206001 : Value).ownBlock) (.slice Ao11 t202.length co11) t202) := ⟨by rw [← hq_]; exact (by (with_reducible repeat (first | apply Kd.R_alloc | apply Kd.R_drewN | apply Kd.R_drew)); exact HO_206000.out)⟩; have n2_ : Aside0 (Kd.R Kd.string 9 wr w.heap.size (fun k_ => some k_ ≠ (.slice Ao47 t208.length co47 : Value).ownBlock ∧ some k_ ≠ (.slice Ao11 t202.length co11 : Value).ownBlock) u206001 x206001_2) := ⟨by rw [← hq_]; exact (by (with_reducible repeat (first | apply Kd.R_alloc | apply Kd.R_drewN | apply Kd.R_drew)); exact HO_206001.out)⟩; have n3_ : Aside0 (wr.heap[gb195]? = some (.cells #[.slice none 0 0, .slice none 0 0, .int .u64 x196002_2] 42 (0, 0))) := ⟨by rw [← hq_]; exact (by (with_reducible repeat (first | refine blk_drewN ?_ _ | refine blk_drew ?_ | refine blk_alloc ?_ _)); exact BK195.out)⟩; have n4_ : Aside0 (wr.heap[gb205]? = some (.cells #[.slice Ao11 t202.length co11, u206001, .int .u64 5] 42 (0, 0))) := ⟨by rw [← hq_]; exact (by (with_reducible repeat (first | refine blk_drewN ?_ _ | refine blk_drew ?_ | refine blk_alloc ?_ _)); exact BK205.out)⟩; have n5_ : Aside0 (Below w.heap.size w wr) := ⟨by rw [← hq_]; exact (by repeat (first | (with_reducible first | exact HB.out | apply below_alloc | apply pw_below_drewN | apply below_drew1 | refine below_set ?_ GE195.out | refine below_set ?_ GE205.out) | exact HB.out))⟩; clear HO_12 HO_206000 HO_206001 BK195 BK205 HB hq_; have HO_12 := n0_; have HO_206000 := n1_; have HO_206001 := n2_; have BK195 := n3_; have BK205 := n4_; have HB := n5_; clear n0_ n1_ n2_ n3_ n4_ n5_))) | ((with_reducible refine gate_callee (f := 43) rfl ?_); refine goesL_ (some 77) rfl rfl Tryd.func43 (by kernel_rfl) rfl #[.string t218] rfl (by (try simp only [List.map_toArray, List.map_cons, List.map_nil]); first | done | rfl | (simp only [List.length_drop, List.length_take]; rfl)) ?_; (with_reducible refine (lockkeeperref1_Digits.calls k2 t218 t219 true _ A44.out).mono ?_); rintro e w' ⟨rfl, ⟨nd, rfl⟩⟩; refine ⟨_, rfl, ?_⟩; (try (rw [drewN_self wr]; generalize hq_ : World.drewN wr _ = wr; have n0_ : Aside0 (Kd.R Kd.string 9 wr w.heap.size (fun k_ => some k_ ≠ (.slice Ao11 t202.length co11 : Value).ownBlock ∧ some k_ ≠ (u206001 : Value).ownBlock) (.slice Ao47 t208.length co47) t208) := ⟨by rw [← hq_]; exact (by (with_reducible repeat (first | apply Kd.R_alloc | apply Kd.R_drewN | apply Kd.R_drew)); exact HO_12.out)⟩; have n1_ : Aside0 (Kd.R Kd.string 9 wr w.heap.size (fun k_ => some k_ ≠ (.slice Ao47 t208.length co47 : Value).ownBlock ∧ some k_ ≠ (u206001 : Value).ownBlock) (.slice Ao11 t202.length co11) t202) := ⟨by rw [← hq_]; exact (by (with_reducible repeat (first | apply Kd.R_alloc | apply Kd.R_drewN | apply Kd.R_drew)); exact HO_206000.out)⟩; have n2_ : Aside0 (Kd.R Kd.string 9 wr w.heap.size (fun k_ => some k_ ≠ (.slice Ao47 t208.length co47 : Value).ownBlock ∧ some k_ ≠ (.slice Ao11 t202.length co11 : Value).ownBlock) u206001 x206001_2) := ⟨by rw [← hq_]; exact (by (with_reducible repeat (first | apply Kd.R_alloc | apply Kd.R_drewN | apply Kd.R_drew)); exact HO_206001.out)⟩; have n3_ : Aside0 (wr.heap[gb195]? = some (.cells #[.slice none 0 0, .slice none 0 0, .int .u64 x196002_2] 42 (0, 0))) := ⟨by rw [← hq_]; exact (by (with_reducible repeat (first | refine blk_drewN ?_ _ | refine blk_drew ?_ | refine blk_alloc ?_ _)); exact BK195.out)⟩; have n4_ : Aside0 (wr.heap[gb205]? = some (.cells #[.slice Ao11 t202.length co11, u206001, .int .u64 5] 42 (0, 0))) := ⟨by rw [← hq_]; exact (by (with_reducible repeat (first | refine blk_drewN ?_ _ | refine blk_drew ?_ | refine blk_alloc ?_ _)); exact BK205.out)⟩; have n5_ : Aside0 (Below w.heap.size w wr) := ⟨by rw [← hq_]; exact (by repeat (first | (with_reducible first | exact HB.out | apply below_alloc | apply pw_below_drewN | apply below_drew1 | refine below_set ?_ GE195.out | refine below_set ?_ GE205.out) | exact HB.out))⟩; clear HO_12 HO_206000 HO_206001 BK195 BK205 HB hq_; have HO_12 := n0_; have HO_206000 := n1_; have HO_206001 := n2_; have BK195 := n3_; have BK205 := n4_; have HB := n5_; clear n0_ n1_ n2_ n3_ n4_ n5_)); have hnb48 := NB205_195.out; have hnc48 := NB195_205.out; have hcz49_0 : wr.cell? ⟨gb205, 0, none⟩ = some (.slice Ao11 t202.length co11) := (blk_cell BK205.out 0).trans rfl; have hcz49_1 : wr.cell? ⟨gb205, 1, none⟩ = some (u206001) := (blk_cell BK205.out 1).trans rfl; have hcz49_2 : wr.cell? ⟨gb205, 2, none⟩ = some (.int .u64 5) := (blk_cell BK205.out 2).trans rfl; have hfz49_0 := blk_frozen BK205.out 0; have hfz49_1 := blk_frozen BK205.out 1; have hfz49_2 := blk_frozen BK205.out 2; have hcz50_0 : wr.cell? ⟨gb195, 0, none⟩ = some (.slice none 0 0) := (blk_cell BK195.out 0).trans rfl; have hcz50_1 : wr.cell? ⟨gb195, 1, none⟩ = some (.slice none 0 0) := (blk_cell BK195.out 1).trans rfl; have hcz50_2 : wr.cell? ⟨gb195, 2, none⟩ = some (.int .u64 x196002_2) := (blk_cell BK195.out 2).trans rfl; have hfz50_0 := blk_frozen BK195.out 0; have hfz50_1 := blk_frozen BK195.out 1; have hfz50_2 := blk_frozen BK195.out 2; obtain ⟨Ao51, co51, eo51⟩ := Kd.R_slice HO_206001.out; subst eo51))
        refine bodyPost_ret (results_ct rfl _ _ gb195 42 #[.slice Ao11 t202.length co11, .slice Ao51 x206001_2.length co51, .int .u64 ji46] (0, 0) _ rfl (by (with_reducible repeat (first | refine blk_drewN ?_ _ | refine blk_drew ?_ | refine blk_alloc ?_ _)); refine blk_put (cs := #[.slice Ao11 t202.length co11, .slice Ao51 x206001_2.length co51, .int .u64 x196002_2]) ?_ 2 _ rfl; (with_reducible repeat (first | refine blk_drewN ?_ _ | refine blk_drew ?_ | refine blk_alloc ?_ _)); refine blk_put (cs := #[.slice Ao11 t202.length co11, .slice none 0 0, .int .u64 x196002_2]) ?_ 1 _ rfl; (with_reducible repeat (first | refine blk_drewN ?_ _ | refine blk_drew ?_ | refine blk_alloc ?_ _)); refine blk_put (cs := #[.slice none 0 0, .slice none 0 0, .int .u64 x196002_2]) ?_ 0 _ rfl; (with_reducible repeat (first | refine blk_drewN ?_ _ | refine blk_drew ?_ | refine blk_alloc ?_ _)); refine blk_far ?_ NB195_205.out _; (with_reducible repeat (first | refine blk_drewN ?_ _ | refine blk_drew ?_ | refine blk_alloc ?_ _)); exact BK195.out) Tryd.underlying42 rfl (by kernel_rfl)) rfl ?_
        exact ⟨_, _, by first | rfl | (simp [errW_none, errW_some] <;> rfl) | (simp only [← hji46]; first | rfl | (simp [errW_none, errW_some] <;> rfl)) | (simp [*, errW_none, errW_some] <;> rfl), by (with_reducible repeat (first | apply Kd.R_alloc | apply Kd.R_drewN | apply Kd.R_drew)); exact Kd.R_mono (Kd.R_far (p := ⟨gb195, 2, none⟩) (Kd.R_far (p := ⟨gb195, 1, none⟩) (Kd.R_far (p := ⟨gb195, 0, none⟩) (Kd.R_far (p := ⟨gb205, 2, none⟩) (Kd.R_types (Kd.R_types HO_206000.out BK205.out (by decide)) BK195.out (by decide)) (fun _ hk => hk.1.2) (.int .u64 ji46)) (fun _ hk => hk.2) (.slice Ao11 t202.length co11)) (fun _ hk => hk.2) (.slice Ao51 x206001_2.length co51)) (fun _ hk => hk.2) (.int .u64 ji46)) (fun _ hk => hk.1.1.2), by (with_reducible repeat (first | apply Kd.R_alloc | apply Kd.R_drewN | apply Kd.R_drew)); exact Kd.R_mono (Kd.R_far (p := ⟨gb195, 2, none⟩) (Kd.R_far (p := ⟨gb195, 1, none⟩) (Kd.R_far (p := ⟨gb195, 0, none⟩) (Kd.R_far (p := ⟨gb205, 2, none⟩) (Kd.R_types (Kd.R_types HO_206001.out BK205.out (by decide)) BK195.out (by decide)) (fun _ hk => hk.1.2) (.int .u64 ji46)) (fun _ hk => hk.2) (.slice Ao11 t202.length co11)) (fun _ hk => hk.2) (.slice Ao51 x206001_2.length co51)) (fun _ hk => hk.2) (.int .u64 ji46)) (fun _ hk => hk.1.1.2), by repeat (first | (with_reducible first | exact HB.out | apply below_alloc | apply pw_below_drewN | apply below_drew1 | refine below_set ?_ GE195.out | refine below_set ?_ GE205.out) | exact HB.out)⟩
       ·replace c45 := Bool.eq_false_iff.mpr c45
        subst c45
        have H1 : (some (t202, x206001_2, 5, 0)) = some (r1, r2, r3, r4) := by rw [if_neg (show ¬ (false = true) by decide)] at H; exact H
        clear H
        have H := H1
        clear H1
        simp only [Option.some.injEq, Prod.mk.injEq] at H
        obtain ⟨rfl, rfl, rfl, rfl⟩ := H
        obtain ⟨Ao52, co52, eo52⟩ := Kd.R_slice HO_12.out
        subst eo52
        go_wp2_with (first | ((with_reducible refine gate_callee (f := 44) rfl ?_); refine goesL_ (some 76) rfl rfl Tryd.func44 (by kernel_rfl) rfl #[.string t200] rfl (by (try simp only [List.map_toArray, List.map_cons, List.map_nil]); first | done | rfl | (simp only [List.length_drop, List.length_take]; rfl)) ?_; (with_reducible refine (lockkeeperref1_Trim.calls k2 t200 t218 _ A43.out).mono ?_); rintro e w' ⟨rfl, ⟨nd, rfl⟩⟩; refine ⟨_, rfl, ?_⟩; (try (rw [drewN_self wr]; generalize hq_ : World.drewN wr _ = wr; have n0_ : Aside0 (Kd.R Kd.string 9 wr w.heap.size (fun k_ => some k_ ≠ (.slice Ao11 t202.length co11 : Value).ownBlock ∧ some k_ ≠ (u206001 : Value).ownBlock) (.slice Ao52 t208.length co52) t208) := ⟨by rw [← hq_]; exact (by (with_reducible repeat (first | apply Kd.R_alloc | apply Kd.R_drewN | apply Kd.R_drew)); exact HO_12.out)⟩; have n1_ : Aside0 (Kd.R Kd.string 9 wr w.heap.size (fun k_ => some k_ ≠ (.slice Ao52 t208.length co52 : Value).ownBlock ∧ some k_ ≠ (u206001 : Value).ownBlock) (.slice Ao11 t202.length co11) t202) := ⟨by rw [← hq_]; exact (by (with_reducible repeat (first | apply Kd.R_alloc | apply Kd.R_drewN | apply Kd.R_drew)); exact HO_206000.out)⟩; have n2_ : Aside0 (Kd.R Kd.string 9 wr w.heap.size (fun k_ => some k_ ≠ (.slice Ao52 t208.length co52 : Value).ownBlock ∧ some k_ ≠ (.slice Ao11 t202.length co11 : Value).ownBlock) u206001 x206001_2) := ⟨by rw [← hq_]; exact (by (with_reducible repeat (first | apply Kd.R_alloc | apply Kd.R_drewN | apply Kd.R_drew)); exact HO_206001.out)⟩; have n3_ : Aside0 (wr.heap[gb195]? = some (.cells #[.slice none 0 0, .slice none 0 0, .int .u64 x196002_2] 42 (0, 0))) := ⟨by rw [← hq_]; exact (by (with_reducible repeat (first | refine blk_drewN ?_ _ | refine blk_drew ?_ | refine blk_alloc ?_ _)); exact BK195.out)⟩; have n4_ : Aside0 (wr.heap[gb205]? = some (.cells #[.slice Ao11 t202.length co11, u206001, .int .u64 5] 42 (0, 0))) := ⟨by rw [← hq_]; exact (by (with_reducible repeat (first | refine blk_drewN ?_ _ | refine blk_drew ?_ | refine blk_alloc ?_ _)); exact BK205.out)⟩; have n5_ : Aside0 (Below w.heap.size w wr) := ⟨by rw [← hq_]; exact (by repeat (first | (with_reducible first | exact HB.out | apply below_alloc | apply pw_below_drewN | apply below_drew1 | refine below_set ?_ GE195.out | refine below_set ?_ GE205.out) | exact HB.out))⟩; clear HO_12 HO_206000 HO_206001 BK195 BK205 HB hq_; have HO_12 := n0_; have HO_206000 := n1_; have HO_206001 := n2_; have BK195 := n3_; have BK205 := n4_; have HB := n5_; clear n0_ n1_ n2_ n3_ n4_ n5_))) | ((with_reducible refine gate_callee (f := 43) rfl ?_); refine goesL_ (some 77) rfl rfl Tryd.func43 (by kernel_rfl) rfl #[.string t218] rfl (by (try simp only [List.map_toArray, List.map_cons, List.map_nil]); first | done | rfl | (simp only [List.length_drop, List.length_take]; rfl)) ?_; (with_reducible refine (lockkeeperref1_Digits.calls k2 t218 t219 false _ A44.out).mono ?_); rintro e w' ⟨rfl, ⟨nd, rfl⟩⟩; refine ⟨_, rfl, ?_⟩; (try (rw [drewN_self wr]; generalize hq_ : World.drewN wr _ = wr; have n0_ : Aside0 (Kd.R Kd.string 9 wr w.heap.size (fun k_ => some k_ ≠ (.slice Ao11 t202.length co11 : Value).ownBlock ∧ some k_ ≠ (u206001 : Value).ownBlock) (.slice Ao52 t208.length co52) t208) := ⟨by rw [← hq_]; exact (by (with_reducible repeat (first | apply Kd.R_alloc | apply Kd.R_drewN | apply Kd.R_drew)); exact HO_12.out)⟩; have n1_ : Aside0 (Kd.R Kd.string 9 wr w.heap.size (fun k_ => some k_ ≠ (.slice Ao52 t208.length co52 : Value).ownBlock ∧ some k_ ≠ (u206001 : Value).ownBlock) (.slice Ao11 t202.length co11) t202) := ⟨by rw [← hq_]; exact (by (with_reducible repeat (first | apply Kd.R_alloc | apply Kd.R_drewN | apply Kd.R_drew)); exact HO_206000.out)⟩; have n2_ : Aside0 (Kd.R Kd.string 9 wr w.heap.size (fun k_ => some k_ ≠ (.slice Ao52 t208.length co52 : Value).ownBlock ∧ some k_ ≠ (.slice Ao11 t202.length co11 : Value).ownBlock) u206001 x206001_2) := ⟨by rw [← hq_]; exact (by (with_reducible repeat (first | apply Kd.R_alloc | apply Kd.R_drewN | apply Kd.R_drew)); exact HO_206001.out)⟩; have n3_ : Aside0 (wr.heap[gb195]? = some (.cells #[.slice none 0 0, .slice none 0 0, .int .u64 x196002_2] 42 (0, 0))) := ⟨by rw [← hq_]; exact (by (with_reducible repeat (first | refine blk_drewN ?_ _ | refine blk_drew ?_ | refine blk_alloc ?_ _)); exact BK195.out)⟩; have n4_ : Aside0 (wr.heap[gb205]? = some (.cells #[.slice Ao11 t202.length co11, u206001, .int .u64 5] 42 (0, 0))) := ⟨by rw [← hq_]; exact (by (with_reducible repeat (first | refine blk_drewN ?_ _ | refine blk_drew ?_ | refine blk_alloc ?_ _)); exact BK205.out)⟩; have n5_ : Aside0 (Below w.heap.size w wr) := ⟨by rw [← hq_]; exact (by repeat (first | (with_reducible first | exact HB.out | apply below_alloc | apply pw_below_drewN | apply below_drew1 | refine below_set ?_ GE195.out | refine below_set ?_ GE205.out) | exact HB.out))⟩; clear HO_12 HO_206000 HO_206001 BK195 BK205 HB hq_; have HO_12 := n0_; have HO_206000 := n1_; have HO_206001 := n2_; have BK195 := n3_; have BK205 := n4_; have HB := n5_; clear n0_ n1_ n2_ n3_ n4_ n5_)); have hnb53 := NB205_195.out; have hnc53 := NB195_205.out; have hcz54_0 : wr.cell? ⟨gb205, 0, none⟩ = some (.slice Ao11 t202.length co11) := (blk_cell BK205.out 0).trans rfl; have hcz54_1 : wr.cell? ⟨gb205, 1, none⟩ = some (u206001) := (blk_cell BK205.out 1).trans rfl; have hcz54_2 : wr.cell? ⟨gb205, 2, none⟩ = some (.int .u64 5) := (blk_cell BK205.out 2).trans rfl; have hfz54_0 := blk_frozen BK205.out 0; have hfz54_1 := blk_frozen BK205.out 1; have hfz54_2 := blk_frozen BK205.out 2; have hcz55_0 : wr.cell? ⟨gb195, 0, none⟩ = some (.slice none 0 0) := (blk_cell BK195.out 0).trans rfl; have hcz55_1 : wr.cell? ⟨gb195, 1, none⟩ = some (.slice none 0 0) := (blk_cell BK195.out 1).trans rfl; have hcz55_2 : wr.cell? ⟨gb195, 2, none⟩ = some (.int .u64 x196002_2) := (blk_cell BK195.out 2).trans rfl; have hfz55_0 := blk_frozen BK195.out 0; have hfz55_1 := blk_frozen BK195.out 1; have hfz55_2 := blk_frozen BK195.out 2; obtain ⟨Ao56, co56, eo56⟩ := Kd.R_slice HO_206001.out; subst eo56))
        refine bodyPost_ret (results_ct rfl _ _ gb195 42 #[.slice Ao11 t202.length co11, .slice Ao56 x206001_2.length co56, .int .u64 5] (0, 0) _ rfl (by (with_reducible repeat (first | refine blk_drewN ?_ _ | refine blk_drew ?_ | refine blk_alloc ?_ _)); refine blk_put (cs := #[.slice Ao11 t202.length co11, .slice Ao56 x206001_2.length co56, .int .u64 x196002_2]) ?_ 2 _ rfl; (with_reducible repeat (first | refine blk_drewN ?_ _ | refine blk_drew ?_ | refine blk_alloc ?_ _)); refine blk_put (cs := #[.slice Ao11 t202.length co11, .slice none 0 0, .int .u64 x196002_2]) ?_ 1 _ rfl; (with_reducible repeat (first | refine blk_drewN ?_ _ | refine blk_drew ?_ | refine blk_alloc ?_ _)); refine blk_put (cs := #[.slice none 0 0, .slice none 0 0, .int .u64 x196002_2]) ?_ 0 _ rfl; (with_reducible repeat (first | refine blk_drewN ?_ _ | refine blk_drew ?_ | refine blk_alloc ?_ _)); exact BK195.out) Tryd.underlying42 rfl (by kernel_rfl)) rfl ?_
        exact ⟨_, _, by first | rfl | (simp [errW_none, errW_some] <;> rfl) | (simp [*, errW_none, errW_some] <;> rfl), by (with_reducible repeat (first | apply Kd.R_alloc | apply Kd.R_drewN | apply Kd.R_drew)); exact Kd.R_mono (Kd.R_far (p := ⟨gb195, 2, none⟩) (Kd.R_far (p := ⟨gb195, 1, none⟩) (Kd.R_far (p := ⟨gb195, 0, none⟩) (Kd.R_types HO_206000.out BK195.out (by decide)) (fun _ hk => hk.2) (.slice Ao11 t202.length co11)) (fun _ hk => hk.2) (.slice Ao56 x206001_2.length co56)) (fun _ hk => hk.2) (.int .u64 5)) (fun _ hk => hk.1.2), by (with_reducible repeat (first | apply Kd.R_alloc | apply Kd.R_drewN | apply Kd.R_drew)); exact Kd.R_mono (Kd.R_far (p := ⟨gb195, 2, none⟩) (Kd.R_far (p := ⟨gb195, 1, none⟩) (Kd.R_far (p := ⟨gb195, 0, none⟩) (Kd.R_types HO_206001.out BK195.out (by decide)) (fun _ hk => hk.2) (.slice Ao11 t202.length co11)) (fun _ hk => hk.2) (.slice Ao56 x206001_2.length co56)) (fun _ hk => hk.2) (.int .u64 5)) (fun _ hk => hk.1.2), by repeat (first | (with_reducible first | exact HB.out | apply below_alloc | apply pw_below_drewN | apply below_drew1 | refine below_set ?_ GE195.out | refine below_set ?_ GE205.out) | exact HB.out)⟩

end Go.Proofs.YtnbkfneolgeeeaaDoor.Pr
