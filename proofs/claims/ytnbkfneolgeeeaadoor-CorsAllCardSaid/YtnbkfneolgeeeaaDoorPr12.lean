-- Made by a program of this session (wip/xp/xp.py), over the print's words.
import Derived.Test.YtnbkfneolgeeeaaDoorPr0
import Derived.Test.YtnbkfneolgeeeaaDoorPr8
import Derived.Test.YtnbkfneolgeeeaaDoorPr10
import Derived.Test.YtnbkfneolgeeeaaDoorPr11
namespace Go.Proofs.YtnbkfneolgeeeaaDoor.Pr
open Go.RowKit Go.Proofs.YtnbkfneolgeeeaaDoorW.PrintWords Go.Proofs.YtnbkfneolgeeeaaDoorW.PrintLast Go.Proofs.YtnbkfneolgeeeaaDoorW.PrintMore
attribute [local go_sem] max2_int min2_int max_two min_two max_three min_three max_four min_four   -- for this text's walks alone
set_option linter.unusedVariables false
set_option linter.unusedSimpArgs false

abbrev lockkeeperref15_Seen_b0 : Array Bool := #[false,false,false,false,false,false,false,false,false,false,false,false,false,false,false,false,false,false,false,false,false,false,false,false,false]
abbrev lockkeeperref15_Seen_b1 : Array Bool := #[true,false,false,false,false,false,false,false,false,false,false,false,false,false,false,false,false,false,false,false,false,false,false,false,false]
abbrev lockkeeperref15_Seen_b2 : Array Bool := #[true,true,false,false,false,false,false,false,false,false,false,false,false,false,false,false,false,false,false,false,false,false,false,false,false]
abbrev lockkeeperref15_Seen_b3 : Array Bool := #[true,true,true,false,false,false,false,false,false,false,false,false,false,false,false,false,false,false,false,false,false,false,false,false,false]
abbrev lockkeeperref15_Seen_b4 : Array Bool := #[true,true,true,true,false,false,false,false,false,false,false,false,false,false,false,false,false,false,false,false,false,false,false,false,false]
abbrev lockkeeperref15_Seen_b5 : Array Bool := #[true,true,true,true,true,false,false,false,false,false,false,false,false,false,false,false,false,false,false,false,false,false,false,false,false]
abbrev lockkeeperref15_Seen_b6 : Array Bool := #[true,true,true,true,true,true,true,true,true,true,false,false,false,false,false,false,false,false,false,false,false,false,false,false,false]
abbrev lockkeeperref15_Seen_b7 : Array Bool := #[true,true,true,true,true,true,true,true,true,true,true,false,false,false,false,false,false,false,false,false,false,false,false,false,false]
abbrev lockkeeperref15_Seen_b8 : Array Bool := #[true,true,true,true,true,true,true,true,true,true,true,true,false,false,false,false,false,false,false,false,false,false,false,false,false]
abbrev lockkeeperref15_Seen_b9 : Array Bool := #[true,true,true,true,true,true,true,true,true,true,true,true,true,false,false,false,false,false,false,false,false,false,false,false,false]
abbrev lockkeeperref15_Seen_b10 : Array Bool := #[true,true,true,true,true,true,true,true,true,true,true,true,true,true,false,false,false,false,false,false,false,false,false,false,false]
abbrev lockkeeperref15_Seen_b11 : Array Bool := #[true,true,true,true,true,true,true,true,true,true,true,true,true,true,true,false,false,false,false,false,false,false,false,false,false]
abbrev lockkeeperref15_Seen_b12 : Array Bool := #[true,true,true,true,true,true,true,true,true,true,true,true,true,true,true,true,false,false,false,false,false,false,false,false,false]
abbrev lockkeeperref15_Seen_b13 : Array Bool := #[true,true,true,true,true,true,true,true,true,true,true,true,true,true,true,true,true,false,false,false,false,false,false,false,false]
abbrev lockkeeperref15_Seen_b14 : Array Bool := #[true,true,true,true,true,true,true,true,true,true,true,true,true,true,true,true,true,true,false,false,false,false,false,false,false]
abbrev lockkeeperref15_Seen_b15 : Array Bool := #[true,true,true,true,true,true,true,true,true,true,true,true,true,true,true,true,true,true,true,false,false,false,false,false,false]
abbrev lockkeeperref15_Seen_b16 : Array Bool := #[true,true,true,true,true,true,true,true,true,true,true,true,true,true,true,true,true,true,true,true,false,false,false,false,false]
abbrev lockkeeperref15_Seen_b17 : Array Bool := #[true,true,true,true,true,true,true,true,true,true,true,true,true,true,true,true,true,true,true,true,true,false,false,false,false]
abbrev lockkeeperref15_Seen_b18 : Array Bool := #[true,true,true,true,true,true,true,true,true,true,true,true,true,true,true,true,true,true,true,true,true,true,false,false,false]
abbrev lockkeeperref15_Seen_b19 : Array Bool := #[true,true,true,true,true,true,true,true,true,true,true,true,true,true,true,true,true,true,true,true,true,true,true,false,false]
abbrev lockkeeperref15_Seen_b20 : Array Bool := #[true,true,true,true,true,true,true,true,true,true,true,true,true,true,true,true,true,true,true,true,true,true,true,true,false]
abbrev lockkeeperref15_Seen_b21 : Array Bool := #[true,true,true,true,true,true,true,true,true,true,true,true,true,true,true,true,true,true,true,true,true,true,true,true,true]
abbrev lockkeeperref15_Seen_b22 : Array Bool := #[true,true,true,true,true,false,true,false,false,false,false,false,false,false,false,false,false,false,false,false,false,false,false,false,false]
abbrev lockkeeperref15_Seen_b23 : Array Bool := #[true,true,true,true,true,false,true,true,false,false,false,false,false,false,false,false,false,false,false,false,false,false,false,false,false]
abbrev lockkeeperref15_Seen_b24 : Array Bool := #[true,true,true,true,true,false,true,true,true,false,false,false,false,false,false,false,false,false,false,false,false,false,false,false,false]
abbrev lockkeeperref15_Seen_b25 : Array Bool := #[true,true,true,true,true,false,true,true,true,true,false,false,false,false,false,false,false,false,false,false,false,false,false,false,false]
/-! ### lockkeeperref15_Seen: function 13 -/
mutual
def lockkeeperref15_Seen.l0 : Nat → Bool → List ByteArray → List (S35) → List (S35) → Int → Option ((List (S35)))
 | 0, _, _, _, _, _ => none
 | k + 1, x0, x7, x8, x9, x10 => if x10 < (x8.length : Int) then (lockkeeperref15_Seen.l1 k x0 x7 x8 x9 x10 false 0) else (some x9)
def lockkeeperref15_Seen.l1 : Nat → Bool → List ByteArray → List (S35) → List (S35) → Int → Bool → Int → Option ((List (S35)))
 | 0, _, _, _, _, _, _, _ => none
 | k + 1, x0, x7, x8, x9, x10, x11, x12 => if x12 < (x7.length : Int) then (if x11 = true then (lockkeeperref15_Seen.l1 k x0 x7 x8 x9 x10 true (wrap64 (x12 + 1))) else (if 0 ≤ x12 then (if 0 ≤ x10 then (if x10 < (x8.length : Int) then ((lockkeeperref1_Fold.f (rdOf ByteArray.empty x7 x12) ((rd_T35 x8 x10).f0)).bind fun t247 => (if t247 = true then (lockkeeperref15_Seen.l1 k x0 x7 x8 x9 x10 true (wrap64 (x12 + 1))) else (if (rdOf ByteArray.empty x7 x12).toList = ([42] : List UInt8) then (lockkeeperref15_Seen.l1 k x0 x7 x8 x9 x10 (!x0) (wrap64 (x12 + 1))) else (lockkeeperref15_Seen.l1 k x0 x7 x8 x9 x10 false (wrap64 (x12 + 1)))))) else (none)) else (none)) else (none))) else (if x11 = true then (if 0 ≤ x10 then (if x10 < (x8.length : Int) then (if ((rd_T35 x8 x10).f0).toList = ([115, 101, 116, 45, 99, 111, 111, 107, 105, 101] : List UInt8) then (lockkeeperref15_Seen.l0 k x0 x7 x8 x9 (wrap64 (x10 + 1))) else (if ((rd_T35 x8 x10).f0).toList = ([115, 101, 116, 45, 99, 111, 111, 107, 105, 101, 50] : List UInt8) then (lockkeeperref15_Seen.l0 k x0 x7 x8 x9 (wrap64 (x10 + 1))) else (if x9.length < 4398046511104 then (lockkeeperref15_Seen.l0 k x0 x7 x8 (x9 ++ [(⟨(rd_T35 x8 x10).f0, (rd_T35 x8 x10).f1⟩ : S35)]) (wrap64 (x10 + 1))) else (none)))) else (none)) else (none)) else (lockkeeperref15_Seen.l0 k x0 x7 x8 x9 (wrap64 (x10 + 1))))
end
def lockkeeperref15_Seen.f (k : Nat) (a0 : Bool) (l1 : List (S35)) : Option ((List (S35))) := (lockkeeperref6_Get.f k l1 (⟨#[97, 99, 99, 101, 115, 115, 45, 99, 111, 110, 116, 114, 111, 108, 45, 101, 120, 112, 111, 115, 101, 45, 104, 101, 97, 100, 101, 114, 115]⟩ : ByteArray)).bind fun bt231 => ((lockkeeperref1_Split.f k bt231.1).bind fun t233 => ((some (([(⟨#[99, 97, 99, 104, 101, 45, 99, 111, 110, 116, 114, 111, 108]⟩ : ByteArray), (⟨#[99, 111, 110, 116, 101, 110, 116, 45, 108, 97, 110, 103, 117, 97, 103, 101]⟩ : ByteArray), (⟨#[99, 111, 110, 116, 101, 110, 116, 45, 108, 101, 110, 103, 116, 104]⟩ : ByteArray), (⟨#[99, 111, 110, 116, 101, 110, 116, 45, 116, 121, 112, 101]⟩ : ByteArray), (⟨#[101, 120, 112, 105, 114, 101, 115]⟩ : ByteArray), (⟨#[108, 97, 115, 116, 45, 109, 111, 100, 105, 102, 105, 101, 100]⟩ : ByteArray), (⟨#[112, 114, 97, 103, 109, 97]⟩ : ByteArray)] : List ByteArray) : List ByteArray)).bind fun y236 => (if t233.length + y236.length < 8796093022208 then ((lockkeeperref6_Norm.f k l1).bind fun t242 => (lockkeeperref15_Seen.l0 k a0 (t233 ++ y236) t242 ([] : List (S35)) 0)) else (none))))
theorem lockkeeperref15_Seen.mono_l : ∀ k, (∀ y0 y1 y2 y3 y4, LeO (lockkeeperref15_Seen.l0 k y0 y1 y2 y3 y4) (lockkeeperref15_Seen.l0 (k + 1) y0 y1 y2 y3 y4)) ∧ (∀ y0 y1 y2 y3 y4 y5 y6, LeO (lockkeeperref15_Seen.l1 k y0 y1 y2 y3 y4 y5 y6) (lockkeeperref15_Seen.l1 (k + 1) y0 y1 y2 y3 y4 y5 y6))
 | 0 => ⟨fun _ _ _ _ _ r h => by simp [lockkeeperref15_Seen.l0] at h, fun _ _ _ _ _ _ _ r h => by simp [lockkeeperref15_Seen.l1] at h⟩
 | k + 1 => by
  obtain ⟨ih0, ih1⟩ := lockkeeperref15_Seen.mono_l k
  refine ⟨?_, ?_⟩
  ·intro y0 y1 y2 y3 y4
   unfold lockkeeperref15_Seen.l0
   repeat' first
   | (with_reducible exact ih0 _ _ _ _ _)
   | (with_reducible exact ih1 _ _ _ _ _ _ _)
   | (with_reducible exact lockkeeperref1_Split.mono _ _)
   | (with_reducible exact lockkeeperref6_Get.mono _ _ _)
   | (with_reducible exact lockkeeperref6_Norm.mono _ _)
   | (with_reducible exact LeO.refl _)
   | (with_reducible exact LeO.none _)
   | (with_reducible refine LeO.ite ?_ ?_)
   | (with_reducible refine LeO.bind ?_ (fun _ => ?_))
   | exact ih0 _ _ _ _ _
   | exact ih1 _ _ _ _ _ _ _
   | exact lockkeeperref1_Split.mono _ _
   | exact lockkeeperref6_Get.mono _ _ _
   | exact lockkeeperref6_Norm.mono _ _
   | exact LeO.none _
   | refine LeO.ite ?_ ?_
   | refine LeO.bind ?_ (fun _ => ?_)
  ·intro y0 y1 y2 y3 y4 y5 y6
   unfold lockkeeperref15_Seen.l1
   repeat' first
   | (with_reducible exact ih0 _ _ _ _ _)
   | (with_reducible exact ih1 _ _ _ _ _ _ _)
   | (with_reducible exact lockkeeperref1_Split.mono _ _)
   | (with_reducible exact lockkeeperref6_Get.mono _ _ _)
   | (with_reducible exact lockkeeperref6_Norm.mono _ _)
   | (with_reducible exact LeO.refl _)
   | (with_reducible exact LeO.none _)
   | (with_reducible refine LeO.ite ?_ ?_)
   | (with_reducible refine LeO.bind ?_ (fun _ => ?_))
   | exact ih0 _ _ _ _ _
   | exact ih1 _ _ _ _ _ _ _
   | exact lockkeeperref1_Split.mono _ _
   | exact lockkeeperref6_Get.mono _ _ _
   | exact lockkeeperref6_Norm.mono _ _
   | exact LeO.none _
   | refine LeO.ite ?_ ?_
   | refine LeO.bind ?_ (fun _ => ?_)
theorem lockkeeperref15_Seen.mono : ∀ a0 a1 k, LeO (lockkeeperref15_Seen.f k a0 a1) (lockkeeperref15_Seen.f (k + 1) a0 a1) := by
 intro a0 a1 k
 obtain ⟨ih0, ih1⟩ := lockkeeperref15_Seen.mono_l k
 unfold lockkeeperref15_Seen.f
 repeat' first
   | (with_reducible exact ih0 _ _ _ _ _)
   | (with_reducible exact ih1 _ _ _ _ _ _ _)
   | (with_reducible exact lockkeeperref1_Split.mono _ _)
   | (with_reducible exact lockkeeperref6_Get.mono _ _ _)
   | (with_reducible exact lockkeeperref6_Norm.mono _ _)
   | (with_reducible exact LeO.refl _)
   | (with_reducible exact LeO.none _)
   | (with_reducible refine LeO.ite ?_ ?_)
   | (with_reducible refine LeO.bind ?_ (fun _ => ?_))
   | exact ih0 _ _ _ _ _
   | exact ih1 _ _ _ _ _ _ _
   | exact lockkeeperref1_Split.mono _ _
   | exact lockkeeperref6_Get.mono _ _ _
   | exact lockkeeperref6_Norm.mono _ _
   | exact LeO.none _
   | refine LeO.ite ?_ ?_
   | refine LeO.bind ?_ (fun _ => ?_)
def lockkeeperref15_Seen.T12 : Bool × List (List Nat × List Nat) := (true, [([], []), ([0], [0]), ([1], [1]), ([1], [1]), ([2, 3, 1], [1, 2, 3]), ([4, 1], [1, 4]), ([1], [1]), ([1], [1]), ([6, 7, 1], [1, 6, 7]), ([8, 1], [1, 8]), ([9, 1], [1, 9]), ([5, 10, 1, 1], [1, 5, 10]), ([1, 11], [1, 11]), ([12, 11], [12]), ([13], [13]), ([13], [13]), ([14, 15, 13], [13, 14, 15]), ([16, 13], [13, 16]), ([17, 13], [13, 17]), ([18, 13, 13], [13, 18]), ([19], [19]), ([20, 19], [19, 20]), ([19, 21, 13], [13, 19, 21]), ([13, 22], [13, 22]), ([23, 19, 0, 1, 2, 3, 4, 5, 6, 7, 8, 9, 10, 11, 12, 13, 14, 15, 16, 17, 18, 19, 20, 21, 22, 23], [0, 23])])
def lockkeeperref15_Seen.B12 : List Nat := [0, 1, 3, 3, 15, 31, 3, 3, 195, 451, 963, 2047, 4095, 8191, 16383, 16383, 65535, 131071, 262143, 524287, 1048575, 2097151, 4194303, 8388607, 16777215]
theorem lockkeeperref15_Seen.tab12 : rtab .any (opsOf Tryd.f13 12) = lockkeeperref15_Seen.T12 := by kernel_rfl
theorem lockkeeperref15_Seen.bits12 : waitsOk lockkeeperref15_Seen.T12.2 lockkeeperref15_Seen.B12 = true := by kernel_rfl
set_option maxHeartbeats 8000000 in
set_option maxRecDepth 100000 in
theorem lockkeeperref15_Seen.calls (k : Nat) (a0 : Bool) (A1 : Option Addr) (c1 : Nat) (l1 : List (S35)) (r : List (S35)) (w : World) (hr1 : Kd.C k35 w A1 l1.length l1) (hc1 : l1.length ≤ c1) (h : lockkeeperref15_Seen.f k a0 l1 = some r) :
  Calls Tryd.prog 13 #[.bool a0, .slice A1 l1.length c1] w fun e w' => ∃ v0_ : Value, e = .returned (v0_) ∧ Kd.R k35 35 w' w.heap.size (fun _ => True) v0_ r ∧ Below w.heap.size w w' := by
 have hu35 := Tryd.underlying35
 have HR1 := Aside0.mk hr1
 have HC1 := Aside0.mk hc1
 clear hr1 hc1
 have HB := Aside0.mk (Below.refl w.heap.size w)
 have H : ((lockkeeperref6_Get.f k l1 (⟨#[97, 99, 99, 101, 115, 115, 45, 99, 111, 110, 116, 114, 111, 108, 45, 101, 120, 112, 111, 115, 101, 45, 104, 101, 97, 100, 101, 114, 115]⟩ : ByteArray)).bind fun bt231 => ((lockkeeperref1_Split.f k bt231.1).bind fun t233 => ((some (([(⟨#[99, 97, 99, 104, 101, 45, 99, 111, 110, 116, 114, 111, 108]⟩ : ByteArray), (⟨#[99, 111, 110, 116, 101, 110, 116, 45, 108, 97, 110, 103, 117, 97, 103, 101]⟩ : ByteArray), (⟨#[99, 111, 110, 116, 101, 110, 116, 45, 108, 101, 110, 103, 116, 104]⟩ : ByteArray), (⟨#[99, 111, 110, 116, 101, 110, 116, 45, 116, 121, 112, 101]⟩ : ByteArray), (⟨#[101, 120, 112, 105, 114, 101, 115]⟩ : ByteArray), (⟨#[108, 97, 115, 116, 45, 109, 111, 100, 105, 102, 105, 101, 100]⟩ : ByteArray), (⟨#[112, 114, 97, 103, 109, 97]⟩ : ByteArray)] : List ByteArray) : List ByteArray)).bind fun y236 => (if t233.length + y236.length < 8796093022208 then ((lockkeeperref6_Norm.f k l1).bind fun t242 => (lockkeeperref15_Seen.l0 k a0 (t233 ++ y236) t242 ([] : List (S35)) 0)) else (none))))) = some r := h
 clear h
 replace H := Option.bind_eq_some_iff.mp H
 obtain ⟨⟨t231, t232⟩, A30, H⟩ := H
 replace H : ((lockkeeperref1_Split.f k t231).bind fun t233 => ((some (([(⟨#[99, 97, 99, 104, 101, 45, 99, 111, 110, 116, 114, 111, 108]⟩ : ByteArray), (⟨#[99, 111, 110, 116, 101, 110, 116, 45, 108, 97, 110, 103, 117, 97, 103, 101]⟩ : ByteArray), (⟨#[99, 111, 110, 116, 101, 110, 116, 45, 108, 101, 110, 103, 116, 104]⟩ : ByteArray), (⟨#[99, 111, 110, 116, 101, 110, 116, 45, 116, 121, 112, 101]⟩ : ByteArray), (⟨#[101, 120, 112, 105, 114, 101, 115]⟩ : ByteArray), (⟨#[108, 97, 115, 116, 45, 109, 111, 100, 105, 102, 105, 101, 100]⟩ : ByteArray), (⟨#[112, 114, 97, 103, 109, 97]⟩ : ByteArray)] : List ByteArray) : List ByteArray)).bind fun y236 => (if t233.length + y236.length < 8796093022208 then ((lockkeeperref6_Norm.f k l1).bind fun t242 => (lockkeeperref15_Seen.l0 k a0 (t233 ++ y236) t242 ([] : List (S35)) 0)) else (none)))) = some r := H
 have A3 := Aside0.mk A30
 clear A30
 replace H := Option.bind_eq_some_iff.mp H
 obtain ⟨t233, A40, H⟩ := H
 replace H : ((some (([(⟨#[99, 97, 99, 104, 101, 45, 99, 111, 110, 116, 114, 111, 108]⟩ : ByteArray), (⟨#[99, 111, 110, 116, 101, 110, 116, 45, 108, 97, 110, 103, 117, 97, 103, 101]⟩ : ByteArray), (⟨#[99, 111, 110, 116, 101, 110, 116, 45, 108, 101, 110, 103, 116, 104]⟩ : ByteArray), (⟨#[99, 111, 110, 116, 101, 110, 116, 45, 116, 121, 112, 101]⟩ : ByteArray), (⟨#[101, 120, 112, 105, 114, 101, 115]⟩ : ByteArray), (⟨#[108, 97, 115, 116, 45, 109, 111, 100, 105, 102, 105, 101, 100]⟩ : ByteArray), (⟨#[112, 114, 97, 103, 109, 97]⟩ : ByteArray)] : List ByteArray) : List ByteArray)).bind fun y236 => (if t233.length + y236.length < 8796093022208 then ((lockkeeperref6_Norm.f k l1).bind fun t242 => (lockkeeperref15_Seen.l0 k a0 (t233 ++ y236) t242 ([] : List (S35)) 0)) else (none))) = some r := H
 have A4 := Aside0.mk A40
 clear A40
 obtain ⟨y236, hy236⟩ : ∃ y_ : List ByteArray, y_ = (([(⟨#[99, 97, 99, 104, 101, 45, 99, 111, 110, 116, 114, 111, 108]⟩ : ByteArray), (⟨#[99, 111, 110, 116, 101, 110, 116, 45, 108, 97, 110, 103, 117, 97, 103, 101]⟩ : ByteArray), (⟨#[99, 111, 110, 116, 101, 110, 116, 45, 108, 101, 110, 103, 116, 104]⟩ : ByteArray), (⟨#[99, 111, 110, 116, 101, 110, 116, 45, 116, 121, 112, 101]⟩ : ByteArray), (⟨#[101, 120, 112, 105, 114, 101, 115]⟩ : ByteArray), (⟨#[108, 97, 115, 116, 45, 109, 111, 100, 105, 102, 105, 101, 100]⟩ : ByteArray), (⟨#[112, 114, 97, 103, 109, 97]⟩ : ByteArray)] : List ByteArray)) := ⟨_, rfl⟩
 replace H : (if t233.length + y236.length < 8796093022208 then ((lockkeeperref6_Norm.f k l1).bind fun t242 => (lockkeeperref15_Seen.l0 k a0 (t233 ++ y236) t242 ([] : List (S35)) 0)) else (none)) = some r := by first | (rw [hy236]; with_reducible exact H) | (have H2_ := (Option.bind_some _ _).symm.trans H; rw [hy236]; with_reducible exact H2_) | (have H2_ := (Option.bind_some _ _).symm.trans H; with_reducible exact H2_) | with_reducible exact H | (rw [hy236]; exact H) | exact H
 have Ny236 := Aside0.mk hy236
 clear hy236
 by_cases c5 : t233.length + y236.length < 8796093022208
 ·rw [if_pos c5] at H
  have LMc5 := Aside0.mk c5
  clear c5
  obtain ⟨y239, hy239⟩ : ∃ y_ : List ByteArray, y_ = (t233 ++ y236) := ⟨_, rfl⟩
  replace H : ((lockkeeperref6_Norm.f k l1).bind fun t242 => (lockkeeperref15_Seen.l0 k a0 y239 t242 ([] : List (S35)) 0)) = some r := by first | (rw [hy239]; with_reducible exact H) | (have H2_ := (Option.bind_some _ _).symm.trans H; rw [hy239]; with_reducible exact H2_) | (have H2_ := (Option.bind_some _ _).symm.trans H; with_reducible exact H2_) | with_reducible exact H | (rw [hy239]; exact H) | exact H
  have Ny239 := Aside0.mk hy239
  clear hy239
  replace H := Option.bind_eq_some_iff.mp H
  obtain ⟨t242, A60, H⟩ := H
  replace H : (lockkeeperref15_Seen.l0 k a0 y239 t242 ([] : List (S35)) 0) = some r := H
  have A6 := Aside0.mk A60
  clear A60
  have H' := Aside0.mk H
  clear H
  go_enter Tryd.func13, Tryd.ntmps13
  go_wp2_with (first | ((with_reducible refine gate_callee (f := 26) rfl ?_); refine goesL_ (some 15) rfl rfl Tryd.func26 (by kernel_rfl) rfl #[.slice A1 l1.length c1, .string (⟨#[97, 99, 99, 101, 115, 115, 45, 99, 111, 110, 116, 114, 111, 108, 45, 101, 120, 112, 111, 115, 101, 45, 104, 101, 97, 100, 101, 114, 115]⟩ : ByteArray)] rfl (by (try simp only [List.map_toArray, List.map_cons, List.map_nil]); first | done | rfl | (simp only [List.length_drop, List.length_take]; rfl)) ?_; (with_reducible refine (lockkeeperref6_Get.calls k _ _ l1 (⟨#[97, 99, 99, 101, 115, 115, 45, 99, 111, 110, 116, 114, 111, 108, 45, 101, 120, 112, 111, 115, 101, 45, 104, 101, 97, 100, 101, 114, 115]⟩ : ByteArray) t231 t232 _ ?side1 ?side2 A3.out).mono ?_); (case side1 => repeat (first | exact HR1.out | (with_reducible refine Kd.C_alloc ?_ _) | (with_reducible refine Kd.C_drewN ?_ _) | (with_reducible refine Kd.C_drew ?_))); (case side2 => exact HC1.out); rintro e w7 ⟨rfl, hb⟩; refine ⟨_, rfl, ?_⟩; have n0_ := Aside0.mk (below_step (by repeat (first | (with_reducible first | exact HB.out | apply below_alloc | apply pw_below_drewN | apply below_drew1) | exact HB.out)) hb); clear HB; have HB := n0_; clear n0_; (try clear hb); (try clear hb2); (try clear hk); (try clear hi)) | ((with_reducible refine gate_callee (f := 31) rfl ?_); refine goesL_ (some 19) rfl rfl Tryd.func31 (by kernel_rfl) rfl #[.string t231] rfl (by (try simp only [List.map_toArray, List.map_cons, List.map_nil]); first | done | rfl | (simp only [List.length_drop, List.length_take]; rfl)) ?_; (with_reducible refine (lockkeeperref1_Split.calls k t231 t233 _ A4.out).mono ?_); rintro e w8 ⟨v234, rfl, ho0, hb⟩; refine ⟨_, rfl, ?_⟩; have n0_ := Aside0.mk (Kd.R_lower ho0 (below_size (by repeat (first | (with_reducible first | exact HB.out | apply below_alloc | apply pw_below_drewN | apply below_drew1) | exact HB.out)))); have n1_ := Aside0.mk (below_step (by repeat (first | (with_reducible first | exact HB.out | apply below_alloc | apply pw_below_drewN | apply below_drew1) | exact HB.out)) hb); clear HB; have HO235 := n0_; have HB := n1_; clear n0_ n1_; (try clear hb); (try clear hb2); (try clear hk); (try clear hi); (try clear ho0)) | ((with_reducible refine gate_dst (N := 20) rfl ?_); refine Kd.R_lit Kd.string _ 9 ?hg (N := 20) ?hd (xs := ([(⟨#[99, 97, 99, 104, 101, 45, 99, 111, 110, 116, 114, 111, 108]⟩ : ByteArray), (⟨#[99, 111, 110, 116, 101, 110, 116, 45, 108, 97, 110, 103, 117, 97, 103, 101]⟩ : ByteArray), (⟨#[99, 111, 110, 116, 101, 110, 116, 45, 108, 101, 110, 103, 116, 104]⟩ : ByteArray), (⟨#[99, 111, 110, 116, 101, 110, 116, 45, 116, 121, 112, 101]⟩ : ByteArray), (⟨#[101, 120, 112, 105, 114, 101, 115]⟩ : ByteArray), (⟨#[108, 97, 115, 116, 45, 109, 111, 100, 105, 102, 105, 101, 100]⟩ : ByteArray), (⟨#[112, 114, 97, 103, 109, 97]⟩ : ByteArray)] : List ByteArray)) (inner := [.string (⟨#[99, 97, 99, 104, 101, 45, 99, 111, 110, 116, 114, 111, 108]⟩ : ByteArray), .string (⟨#[99, 111, 110, 116, 101, 110, 116, 45, 108, 97, 110, 103, 117, 97, 103, 101]⟩ : ByteArray), .string (⟨#[99, 111, 110, 116, 101, 110, 116, 45, 108, 101, 110, 103, 116, 104]⟩ : ByteArray), .string (⟨#[99, 111, 110, 116, 101, 110, 116, 45, 116, 121, 112, 101]⟩ : ByteArray), .string (⟨#[101, 120, 112, 105, 114, 101, 115]⟩ : ByteArray), .string (⟨#[108, 97, 115, 116, 45, 109, 111, 100, 105, 102, 105, 101, 100]⟩ : ByteArray), .string (⟨#[112, 114, 97, 103, 109, 97]⟩ : ByteArray)]) (ok := fun _ => True) (okp := fun _ => True) ?hr ?hp (fun _ hk => hk) trivial (Below.refl _ _) (Nat.le_refl _) (by simp) ?_; (case hd => rfl); (case hg => rfl); (case hr => first | (go_simp; done) | (go_simp; rfl)); (case hp => exact (Reps.one (show Kd.M Kd.string _ _ _ (⟨#[99, 97, 99, 104, 101, 45, 99, 111, 110, 116, 114, 111, 108]⟩ : ByteArray) [.string (⟨#[99, 97, 99, 104, 101, 45, 99, 111, 110, 116, 114, 111, 108]⟩ : ByteArray)] from rfl) (Reps.one (show Kd.M Kd.string _ _ _ (⟨#[99, 111, 110, 116, 101, 110, 116, 45, 108, 97, 110, 103, 117, 97, 103, 101]⟩ : ByteArray) [.string (⟨#[99, 111, 110, 116, 101, 110, 116, 45, 108, 97, 110, 103, 117, 97, 103, 101]⟩ : ByteArray)] from rfl) (Reps.one (show Kd.M Kd.string _ _ _ (⟨#[99, 111, 110, 116, 101, 110, 116, 45, 108, 101, 110, 103, 116, 104]⟩ : ByteArray) [.string (⟨#[99, 111, 110, 116, 101, 110, 116, 45, 108, 101, 110, 103, 116, 104]⟩ : ByteArray)] from rfl) (Reps.one (show Kd.M Kd.string _ _ _ (⟨#[99, 111, 110, 116, 101, 110, 116, 45, 116, 121, 112, 101]⟩ : ByteArray) [.string (⟨#[99, 111, 110, 116, 101, 110, 116, 45, 116, 121, 112, 101]⟩ : ByteArray)] from rfl) (Reps.one (show Kd.M Kd.string _ _ _ (⟨#[101, 120, 112, 105, 114, 101, 115]⟩ : ByteArray) [.string (⟨#[101, 120, 112, 105, 114, 101, 115]⟩ : ByteArray)] from rfl) (Reps.one (show Kd.M Kd.string _ _ _ (⟨#[108, 97, 115, 116, 45, 109, 111, 100, 105, 102, 105, 101, 100]⟩ : ByteArray) [.string (⟨#[108, 97, 115, 116, 45, 109, 111, 100, 105, 102, 105, 101, 100]⟩ : ByteArray)] from rfl) (Reps.one (show Kd.M Kd.string _ _ _ (⟨#[112, 114, 97, 103, 109, 97]⟩ : ByteArray) [.string (⟨#[112, 114, 97, 103, 109, 97]⟩ : ByteArray)] from rfl) (Reps.none _ _))))))))); intro v237 w9 ho10 hb hg_ hnew_; clear hg_ hnew_; (first | rw [← Ny236.out] at ho10 | (simp only [Int.reduceToNat] at ho10; rw [← Ny236.out] at ho10)); have n0_ := Aside0.mk (Kd.R_elder' (by (with_reducible repeat (first | apply Kd.R_alloc | apply Kd.R_drewN | apply Kd.R_drew)); exact HO235.out) (Kd.R_base ho10) hb); have n1_ := Aside0.mk (Kd.R_lower (Kd.R_new' ho10 (Kd.R_lt (by (with_reducible repeat (first | apply Kd.R_alloc | apply Kd.R_drewN | apply Kd.R_drew)); exact HO235.out))) (below_size (by repeat (first | (with_reducible first | exact HB.out | apply below_alloc | apply pw_below_drewN | apply below_drew1) | exact HB.out)))); have n2_ := Aside0.mk (below_step (by repeat (first | (with_reducible first | exact HB.out | apply below_alloc | apply pw_below_drewN | apply below_drew1) | exact HB.out)) hb); clear HO235; clear HB; have HO235 := n0_; have HO238 := n1_; have HB := n2_; clear n0_ n1_ n2_; clear hb ho10; obtain ⟨Ao12, co12, eo12⟩ := Kd.R_slice HO238.out; subst eo12) | ((with_reducible refine gate_builtin (b := .append) (xs := #[.tmp 19, .tmp 20]) rfl ?_); at_builtin; refine Kd.R_append_rows Kd.string (w0 := w) w.heap.size rfl (.tmp 19) (.tmp 20) 39 9 (.string ⟨#[]⟩) 16 rfl Tryd.underlying39 info9 rfl (by decide) (by omega) v234 t233 y236 _ _ _ (fun k_ => some k_ ≠ (.slice Ao12 y236.length co12 : Value).ownBlock) (fun _ => False) rfl rfl ?aO ?aR (fun _ _ h => h) (fun _ h => h.elim) ?aF ?aB ?aS ?aL ?_; (case aR => repeat (first | exact (Kd.R_reads' HO238.out).2.2 | (with_reducible refine Kd.C_alloc ?_ _) | (with_reducible refine Kd.C_drewN ?_ _) | (with_reducible refine Kd.C_drew ?_))); (case aB => exact (by repeat (first | (with_reducible first | exact HB.out | apply below_alloc | apply pw_below_drewN | apply below_drew1) | exact HB.out))); (case aF => exact (fun k_ hk => Kd.fresh' (Kd.R_lt (by (with_reducible repeat (first | apply Kd.R_alloc | apply Kd.R_drewN | apply Kd.R_drew)); exact HO238.out)) k_ hk)); (case aO => exact (by (with_reducible repeat (first | apply Kd.R_alloc | apply Kd.R_drewN | apply Kd.R_drew)); exact Kd.R_mono HO235.out (fun _ hk => hk.2))); (case aS => exact (below_size (by repeat (first | (with_reducible first | exact HB.out | apply below_alloc | apply pw_below_drewN | apply below_drew1) | exact HB.out)))); (case aL => have := LMc5.out; omega); intro v240 w11 ho hb hg hat; rw [← Ny239.out] at ho; have n0_ := Aside0.mk (Kd.R_after (ok := (fun _ => True)) (by (with_reducible repeat (first | apply Kd.R_alloc | apply Kd.R_drewN | apply Kd.R_drew)); exact HO238.out) hg hat); have n1_ := Aside0.mk (hb); have n2_ := Aside0.mk (ho); clear HO238; clear HB; clear HO235; have HO238 := n0_; have HB := n1_; have HO241 := n2_; clear n0_ n1_ n2_; clear ho hb hg hat) | ((with_reducible refine gate_callee (f := 32) rfl ?_); refine goesL_ (some 23) rfl rfl Tryd.func32 (by kernel_rfl) rfl #[.slice A1 l1.length c1] rfl (by (try simp only [List.map_toArray, List.map_cons, List.map_nil]); first | done | rfl | (simp only [List.length_drop, List.length_take]; rfl)) ?_; (with_reducible refine (lockkeeperref6_Norm.calls k _ _ l1 t242 _ ?side1 ?side2 A6.out).mono ?_); (case side1 => repeat (first | exact (Kd.C_below HR1.out HB.out) | (with_reducible refine Kd.C_alloc ?_ _) | (with_reducible refine Kd.C_drewN ?_ _) | (with_reducible refine Kd.C_drew ?_))); (case side2 => exact HC1.out); rintro e w13 ⟨v243, rfl, ho0, hb⟩; refine ⟨_, rfl, ?_⟩; have n0_ := Aside0.mk (Kd.R_below (by (with_reducible repeat (first | apply Kd.R_alloc | apply Kd.R_drewN | apply Kd.R_drew)); exact HO238.out) hb); have n1_ := Aside0.mk (Kd.R_below (by (with_reducible repeat (first | apply Kd.R_alloc | apply Kd.R_drewN | apply Kd.R_drew)); exact HO241.out) hb); have n2_ := Aside0.mk (Kd.R_lower ho0 (below_size (by repeat (first | (with_reducible first | exact HB.out | apply below_alloc | apply pw_below_drewN | apply below_drew1) | exact HB.out)))); have n3_ := Aside0.mk (below_step (by repeat (first | (with_reducible first | exact HB.out | apply below_alloc | apply pw_below_drewN | apply below_drew1) | exact HB.out)) hb); clear HO238; clear HO241; clear HB; have HO238 := n0_; have HO241 := n1_; have HO244 := n2_; have HB := n3_; clear n0_ n1_ n2_ n3_; (try clear hb); (try clear hb2); (try clear hk); (try clear hi); (try clear ho0)))
  go_loopg [9, 10] k (fun kq v9 v10 w' => ∃ (x9_1 : List (S35)) (x10_1 : Int), v10 = .int .i64 x10_1 ∧ Aside0 (lockkeeperref15_Seen.l0 kq a0 y239 t242 x9_1 x10_1 = some r) ∧ Aside0 (kq ≤ k) ∧ Aside0 (Kd.R Kd.string 9 w' w.heap.size (fun _ => True) v240 y239) ∧ Aside0 (Kd.R k35 35 w' w.heap.size (fun k_ => some k_ ≠ (v9 : Value).ownBlock) v243 t242) ∧ Aside0 (Kd.R k35 35 w' w.heap.size (fun k_ => some k_ ≠ (v243 : Value).ownBlock) v9 x9_1) ∧ Aside0 (Below w.heap.size w w'))
  case atStart => exact ⟨(([] : List (S35))), (0), (by first | rfl | (simp; done) | (simp [*]; done)), H', ⟨Nat.le_refl _⟩, ⟨by (with_reducible repeat (first | apply Kd.R_alloc | apply Kd.R_drewN | apply Kd.R_drew)); exact Kd.R_mono HO241.out (fun _ hk => trivial)⟩, ⟨by (with_reducible repeat (first | apply Kd.R_alloc | apply Kd.R_drewN | apply Kd.R_drew)); exact Kd.R_mono HO244.out (fun _ hk => (by simp [Value.ownBlock]))⟩, ⟨by first | exact Kd.R_nil _ _ _ _ _ | exact Kd.N_nil _ _ _ _ _ | exact Kd.V_nil _ _ _ _ _ | exact Kd.Q_nil _ _ _ _ _ | exact Kd.S_nil _ _ _ _ _⟩, ⟨by repeat (first | (with_reducible first | exact HB.out | apply below_alloc | apply pw_below_drewN | apply below_drew1) | exact HB.out)⟩⟩
  case round =>
   clear H'
   try clear c1
   try clear c2
   try clear p2
   try clear c3
   try clear c5
   try clear c13
   obtain ⟨x9_1, x10_1, rfl, HA, HK1, HO_7, HO_8, HO_9, HB⟩ := hrel
   cases gk with
   | zero => exact absurd HA.out (by simp [lockkeeperref15_Seen.l0])
   | succ k1 =>
    have H := HA.out
    clear HA
    simp only [lockkeeperref15_Seen.l0] at H
    by_cases c14 : x10_1 < (t242.length : Int)
    ·rw [if_pos c14] at H
     have c14b0 : decide (x10_1 < (t242.length : Int)) = true := decide_eq_true c14
     clear c14
     have H' := Aside0.mk H
     clear H
     obtain ⟨Ao15, co15, eo15⟩ := Kd.R_slice HO_8.out
     subst eo15
     go_wp2
     go_loopg [11, 12] k1 (fun kq v11 v12 w' => ∃ (x11_2 : Bool) (x12_2 : Int), v11 = .bool x11_2 ∧ v12 = .int .i64 x12_2 ∧ Aside0 (lockkeeperref15_Seen.l1 kq a0 y239 t242 x9_1 x10_1 x11_2 x12_2 = some r) ∧ Aside0 (kq ≤ k1) ∧ Aside0 (Kd.R Kd.string 9 w' w.heap.size (fun _ => True) v240 y239) ∧ Aside0 (Kd.R k35 35 w' w.heap.size (fun k_ => some k_ ≠ (u9 : Value).ownBlock) (.slice Ao15 t242.length co15) t242) ∧ Aside0 (Kd.R k35 35 w' w.heap.size (fun k_ => some k_ ≠ ((.slice Ao15 t242.length co15) : Value).ownBlock) u9 x9_1) ∧ Aside0 (Below w.heap.size w w'))
     case atStart => exact ⟨(false), (0), (by first | rfl | (simp; done) | (simp [*]; done)), (by first | rfl | (simp; done) | (simp [*]; done)), H', ⟨Nat.le_refl _⟩, ⟨by (with_reducible repeat (first | apply Kd.R_alloc | apply Kd.R_drewN | apply Kd.R_drew)); exact HO_7.out⟩, ⟨by (with_reducible repeat (first | apply Kd.R_alloc | apply Kd.R_drewN | apply Kd.R_drew)); exact HO_8.out⟩, ⟨by (with_reducible repeat (first | apply Kd.R_alloc | apply Kd.R_drewN | apply Kd.R_drew)); exact HO_9.out⟩, ⟨by repeat (first | (with_reducible first | exact HB.out | apply below_alloc | apply pw_below_drewN | apply below_drew1) | exact HB.out)⟩⟩
     case round =>
      clear H'
      try clear c1
      try clear c2
      try clear p2
      try clear c3
      try clear c5
      try clear c13
      try clear c14
      try clear c14b0
      try clear p2
      obtain ⟨x11_2, x12_2, rfl, rfl, HA, HK2, HO_7, HO_8, HO_9, HB⟩ := hrel
      cases gk with
      | zero => exact absurd HA.out (by simp [lockkeeperref15_Seen.l1])
      | succ k2 =>
       have H := HA.out
       clear HA
       simp only [lockkeeperref15_Seen.l1] at H
       by_cases c16 : x12_2 < (y239.length : Int)
       ·rw [if_pos c16] at H
        have c16b0 : decide (x12_2 < (y239.length : Int)) = true := decide_eq_true c16
        clear c16
        by_cases c17 : x11_2 = true
        ·subst c17
         have H1 : (lockkeeperref15_Seen.l1 k2 a0 y239 t242 x9_1 x10_1 true (wrap64 (x12_2 + 1))) = some r := by rw [if_pos rfl] at H; exact H
         clear H
         have H := H1
         clear H1
         have H' := Aside0.mk H
         clear H
         obtain ⟨Ao18, co18, eo18⟩ := Kd.R_slice HO_7.out
         subst eo18
         try go_wp2
         have n0_ := Aside0.mk (Kd.R_drew HO_7.out)
         have n1_ := Aside0.mk (Kd.R_drew HO_8.out)
         have n2_ := Aside0.mk (Kd.R_drew HO_9.out)
         have n3_ := Aside0.mk (below_drew1 HB.out)
         clear HO_7
         clear HO_8
         clear HO_9
         clear HB
         have HO_7 := n0_
         have HO_8 := n1_
         have HO_9 := n2_
         have HB := n3_
         clear n0_ n1_ n2_ n3_
         refine start_ (n := 25) (S := fun w' => True) (ds := []) lockkeeperref15_Seen_b0 (by kernel_rfl) rfl rfl trivial (fun hHeld => ?_); refine with_tabW lockkeeperref15_Seen.tab12 lockkeeperref15_Seen.bits12 (fun HT_ HW_ => ?_)
         generalize wr.drew = w19 at HO_7 HO_8 HO_9 HB hHeld ⊢
         refine pure_ (i := 0) (N := some 36) (v := ?_) (a' := ?_) lockkeeperref15_Seen_b1 rfl rfl (any_of HT_.out (by kernel_rfl)) (fun _ _ _ h => h) (Or.inl ⟨by rfl, ?_⟩) ?_ ?_
         rotate_left
         ·intro w'
          go_simp
          with_reducible rfl
         rotate_left
         ·simp only [Act.put, List.setIfInBounds_toArray, List.set_cons_zero, List.set_cons_succ, i64_w, i32_w]
          rfl
         refine pure_ (i := 1) (N := some 37) (v := ?_) (a' := ?_) lockkeeperref15_Seen_b2 rfl rfl (any_of HT_.out (by kernel_rfl)) (fun _ _ _ h => h) (Or.inl ⟨by rfl, ?_⟩) ?_ ?_
         rotate_left
         ·intro w'
          go_simp
          with_reducible rfl
         rotate_left
         ·simp only [Act.put, List.setIfInBounds_toArray, List.set_cons_zero, List.set_cons_succ, i64_w, i32_w]
          rfl
         refine pure_ (i := 2) (N := some 38) (v := undef) (a' := ?_) lockkeeperref15_Seen_b3 rfl rfl (any_of HT_.out (by kernel_rfl)) (fun _ _ _ h => h) (Or.inr ⟨by rfl, rfl⟩) ?_ ?_
         rotate_left
         ·simp only [Act.put, List.setIfInBounds_toArray, List.set_cons_zero, List.set_cons_succ, i64_w, i32_w]
          rfl
         refine pure_ (i := 3) (N := some 39) (v := undef) (a' := ?_) lockkeeperref15_Seen_b4 rfl rfl (any_of HT_.out (by kernel_rfl)) (fun _ _ _ h => h) (Or.inr ⟨by rfl, rfl⟩) ?_ ?_
         rotate_left
         ·simp only [Act.put, List.setIfInBounds_toArray, List.set_cons_zero, List.set_cons_succ, i64_w, i32_w]
          rfl
         refine pure_ (i := 4) (N := some 40) (v := undef) (a' := ?_) lockkeeperref15_Seen_b5 rfl rfl (any_of HT_.out (by kernel_rfl)) (fun _ _ _ h => h) (Or.inr ⟨by rfl, rfl⟩) ?_ ?_
         rotate_left
         ·simp only [Act.put, List.setIfInBounds_toArray, List.set_cons_zero, List.set_cons_succ, i64_w, i32_w]
          rfl
         refine pure_ (i := 5) (N := some 41) (v := undef) (a' := ?_) #[true, true, true, true, true, true, false, false, false, false, false, false, false, false, false, false, false, false, false, false, false, false, false, false, false] rfl rfl (any_of HT_.out (by kernel_rfl)) (fun _ _ _ h => h) (Or.inr ⟨by rfl, rfl⟩) ?_ ?_
         rotate_left
         ·simp only [Act.put, List.setIfInBounds_toArray, List.set_cons_zero, List.set_cons_succ, i64_w, i32_w]
          rfl
         refine pure_ (i := 6) (N := some 42) (v := undef) (a' := ?_) #[true, true, true, true, true, true, true, false, false, false, false, false, false, false, false, false, false, false, false, false, false, false, false, false, false] rfl rfl (any_of HT_.out (by kernel_rfl)) (fun _ _ _ h => h) (Or.inr ⟨by rfl, rfl⟩) ?_ ?_
         rotate_left
         ·simp only [Act.put, List.setIfInBounds_toArray, List.set_cons_zero, List.set_cons_succ, i64_w, i32_w]
          rfl
         refine pure_ (i := 7) (N := some 43) (v := undef) (a' := ?_) #[true, true, true, true, true, true, true, true, false, false, false, false, false, false, false, false, false, false, false, false, false, false, false, false, false] rfl rfl (any_of HT_.out (by kernel_rfl)) (fun _ _ _ h => h) (Or.inr ⟨by rfl, rfl⟩) ?_ ?_
         rotate_left
         ·simp only [Act.put, List.setIfInBounds_toArray, List.set_cons_zero, List.set_cons_succ, i64_w, i32_w]
          rfl
         refine pure_ (i := 8) (N := some 44) (v := undef) (a' := ?_) #[true, true, true, true, true, true, true, true, true, false, false, false, false, false, false, false, false, false, false, false, false, false, false, false, false] rfl rfl (any_of HT_.out (by kernel_rfl)) (fun _ _ _ h => h) (Or.inr ⟨by rfl, rfl⟩) ?_ ?_
         rotate_left
         ·simp only [Act.put, List.setIfInBounds_toArray, List.set_cons_zero, List.set_cons_succ, i64_w, i32_w]
          rfl
         refine pure_ (i := 9) (N := some 45) (v := undef) (a' := ?_) lockkeeperref15_Seen_b6 rfl rfl (any_of HT_.out (by kernel_rfl)) (fun _ _ _ h => h) (Or.inr ⟨by rfl, rfl⟩) ?_ ?_
         rotate_left
         ·simp only [Act.put, List.setIfInBounds_toArray, List.set_cons_zero, List.set_cons_succ, i64_w, i32_w]
          rfl
         refine pure_ (i := 10) (N := some 46) (v := undef) (a' := ?_) lockkeeperref15_Seen_b7 rfl rfl (any_of HT_.out (by kernel_rfl)) (fun _ _ _ h => h) (Or.inr ⟨by rfl, rfl⟩) ?_ ?_
         rotate_left
         ·simp only [Act.put, List.setIfInBounds_toArray, List.set_cons_zero, List.set_cons_succ, i64_w, i32_w]
          rfl
         refine pure_ (i := 11) (N := some 47) (v := undef) (a' := ?_) lockkeeperref15_Seen_b8 rfl rfl (any_of HT_.out (by kernel_rfl)) (fun _ _ _ h => h) (Or.inr ⟨by rfl, rfl⟩) ?_ ?_
         rotate_left
         ·simp only [Act.put, List.setIfInBounds_toArray, List.set_cons_zero, List.set_cons_succ, i64_w, i32_w]
          rfl
         refine pure_ (i := 12) (N := some 48) (v := ?_) (a' := ?_) lockkeeperref15_Seen_b9 rfl rfl (any_of HT_.out (by kernel_rfl)) (fun _ _ _ h => h) (Or.inl ⟨by rfl, ?_⟩) ?_ ?_
         rotate_left
         ·intro w'
          go_simp
          with_reducible rfl
         rotate_left
         ·simp only [Act.put, List.setIfInBounds_toArray, List.set_cons_zero, List.set_cons_succ, i64_w, i32_w]
          rfl
         refine pure_ (i := 13) (N := some 49) (v := ?_) (a' := ?_) lockkeeperref15_Seen_b10 rfl rfl (any_of HT_.out (by kernel_rfl)) (fun _ _ _ h => h) (Or.inl ⟨by rfl, ?_⟩) ?_ ?_
         rotate_left
         ·intro w'
          go_simp
          with_reducible rfl
         rotate_left
         ·simp only [Act.put, List.setIfInBounds_toArray, List.set_cons_zero, List.set_cons_succ, i64_w, i32_w]
          rfl
         refine pure_ (i := 14) (N := some 50) (v := undef) (a' := ?_) lockkeeperref15_Seen_b11 rfl rfl (any_of HT_.out (by kernel_rfl)) (fun _ _ _ h => h) (Or.inr ⟨by rfl, rfl⟩) ?_ ?_
         rotate_left
         ·simp only [Act.put, List.setIfInBounds_toArray, List.set_cons_zero, List.set_cons_succ, i64_w, i32_w]
          rfl
         refine pure_ (i := 15) (N := some 51) (v := undef) (a' := ?_) lockkeeperref15_Seen_b12 rfl rfl (any_of HT_.out (by kernel_rfl)) (fun _ _ _ h => h) (Or.inr ⟨by rfl, rfl⟩) ?_ ?_
         rotate_left
         ·simp only [Act.put, List.setIfInBounds_toArray, List.set_cons_zero, List.set_cons_succ, i64_w, i32_w]
          rfl
         refine pure_ (i := 16) (N := some 52) (v := undef) (a' := ?_) lockkeeperref15_Seen_b13 rfl rfl (any_of HT_.out (by kernel_rfl)) (fun _ _ _ h => h) (Or.inr ⟨by rfl, rfl⟩) ?_ ?_
         rotate_left
         ·simp only [Act.put, List.setIfInBounds_toArray, List.set_cons_zero, List.set_cons_succ, i64_w, i32_w]
          rfl
         refine pure_ (i := 17) (N := some 53) (v := undef) (a' := ?_) lockkeeperref15_Seen_b14 rfl rfl (any_of HT_.out (by kernel_rfl)) (fun _ _ _ h => h) (Or.inr ⟨by rfl, rfl⟩) ?_ ?_
         rotate_left
         ·simp only [Act.put, List.setIfInBounds_toArray, List.set_cons_zero, List.set_cons_succ, i64_w, i32_w]
          rfl
         refine pure_ (i := 18) (N := some 54) (v := undef) (a' := ?_) lockkeeperref15_Seen_b15 rfl rfl (any_of HT_.out (by kernel_rfl)) (fun _ _ _ h => h) (Or.inr ⟨by rfl, rfl⟩) ?_ ?_
         rotate_left
         ·simp only [Act.put, List.setIfInBounds_toArray, List.set_cons_zero, List.set_cons_succ, i64_w, i32_w]
          rfl
         refine pure_ (i := 19) (N := some 55) (v := undef) (a' := ?_) lockkeeperref15_Seen_b16 rfl rfl (any_of HT_.out (by kernel_rfl)) (fun _ _ _ h => h) (Or.inr ⟨by rfl, rfl⟩) ?_ ?_
         rotate_left
         ·simp only [Act.put, List.setIfInBounds_toArray, List.set_cons_zero, List.set_cons_succ, i64_w, i32_w]
          rfl
         refine pure_ (i := 20) (N := some 56) (v := undef) (a' := ?_) lockkeeperref15_Seen_b17 rfl rfl (any_of HT_.out (by kernel_rfl)) (fun _ _ _ h => h) (Or.inr ⟨by rfl, rfl⟩) ?_ ?_
         rotate_left
         ·simp only [Act.put, List.setIfInBounds_toArray, List.set_cons_zero, List.set_cons_succ, i64_w, i32_w]
          rfl
         refine pure_ (i := 21) (N := some 57) (v := undef) (a' := ?_) lockkeeperref15_Seen_b18 rfl rfl (any_of HT_.out (by kernel_rfl)) (fun _ _ _ h => h) (Or.inr ⟨by rfl, rfl⟩) ?_ ?_
         rotate_left
         ·simp only [Act.put, List.setIfInBounds_toArray, List.set_cons_zero, List.set_cons_succ, i64_w, i32_w]
          rfl
         refine pure_ (i := 22) (N := some 58) (v := undef) (a' := ?_) lockkeeperref15_Seen_b19 rfl rfl (any_of HT_.out (by kernel_rfl)) (fun _ _ _ h => h) (Or.inr ⟨by rfl, rfl⟩) ?_ ?_
         rotate_left
         ·simp only [Act.put, List.setIfInBounds_toArray, List.set_cons_zero, List.set_cons_succ, i64_w, i32_w]
          rfl
         refine pure_ (i := 23) (N := some 59) (v := ?_) (a' := ?_) lockkeeperref15_Seen_b20 rfl rfl (any_of HT_.out (by kernel_rfl)) (fun _ _ _ h => h) (Or.inl ⟨by rfl, ?_⟩) ?_ ?_
         rotate_left
         ·intro w'
          go_simp
          with_reducible rfl
         rotate_left
         ·simp only [Act.put, List.setIfInBounds_toArray, List.set_cons_zero, List.set_cons_succ, i64_w, i32_w]
          rfl
         refine pure_ (i := 24) (N := some 11) (v := ?_) (a' := ?_) lockkeeperref15_Seen_b21 rfl rfl (any_of HT_.out (by kernel_rfl)) (fun _ _ _ h => h) (Or.inl ⟨by rfl, ?_⟩) ?_ ?_
         rotate_left
         ·intro w'
          go_simp
          with_reducible rfl
         rotate_left
         ·simp only [Act.put, List.setIfInBounds_toArray, List.set_cons_zero, List.set_cons_succ, i64_w, i32_w]
          rfl
         refine done_ (done_of HT_.out (by kernel_rfl)) ?_
         try go_wp2
         go_roundg k2
         case measure => have := HK1.out; have := HK2.out; omega
         case rel => exact ⟨(true), (wrap64 (x12_2 + 1)), (by first | rfl | (simp; done) | (simp [*]; done)), (by first | rfl | (simp; done) | (simp [*]; done)), H', ⟨by have := HK1.out; have := HK2.out; omega⟩, ⟨by (with_reducible repeat (first | apply Kd.R_alloc | apply Kd.R_drewN | apply Kd.R_drew)); exact HO_7.out⟩, ⟨by (with_reducible repeat (first | apply Kd.R_alloc | apply Kd.R_drewN | apply Kd.R_drew)); exact HO_8.out⟩, ⟨by (with_reducible repeat (first | apply Kd.R_alloc | apply Kd.R_drewN | apply Kd.R_drew)); exact HO_9.out⟩, ⟨by repeat (first | (with_reducible first | exact HB.out | apply below_alloc | apply pw_below_drewN | apply below_drew1) | exact HB.out)⟩⟩
        ·replace c17 := Bool.eq_false_iff.mpr c17
         subst c17
         have H1 : (if 0 ≤ x12_2 then (if 0 ≤ x10_1 then (if x10_1 < (t242.length : Int) then ((lockkeeperref1_Fold.f (rdOf ByteArray.empty y239 x12_2) ((rd_T35 t242 x10_1).f0)).bind fun t247 => (if t247 = true then (lockkeeperref15_Seen.l1 k2 a0 y239 t242 x9_1 x10_1 true (wrap64 (x12_2 + 1))) else (if (rdOf ByteArray.empty y239 x12_2).toList = ([42] : List UInt8) then (lockkeeperref15_Seen.l1 k2 a0 y239 t242 x9_1 x10_1 (!a0) (wrap64 (x12_2 + 1))) else (lockkeeperref15_Seen.l1 k2 a0 y239 t242 x9_1 x10_1 false (wrap64 (x12_2 + 1)))))) else (none)) else (none)) else (none)) = some r := by rw [if_neg (show ¬ (false = true) by decide)] at H; exact H
         clear H
         have H := H1
         clear H1
         by_cases c20 : 0 ≤ x12_2
         ·rw [if_pos c20] at H
          have c20b0 : decide (0 ≤ x12_2) = true := decide_eq_true c20
          clear c20
          by_cases c21 : 0 ≤ x10_1
          ·rw [if_pos c21] at H
           have c21b0 : decide (0 ≤ x10_1) = true := decide_eq_true c21
           clear c21
           by_cases c22 : x10_1 < (t242.length : Int)
           ·rw [if_pos c22] at H
            have c22b0 : decide (x10_1 < (t242.length : Int)) = true := decide_eq_true c22
            clear c22
            replace H := Option.bind_eq_some_iff.mp H
            obtain ⟨t247, A230, H⟩ := H
            replace H : (if t247 = true then (lockkeeperref15_Seen.l1 k2 a0 y239 t242 x9_1 x10_1 true (wrap64 (x12_2 + 1))) else (if (rdOf ByteArray.empty y239 x12_2).toList = ([42] : List UInt8) then (lockkeeperref15_Seen.l1 k2 a0 y239 t242 x9_1 x10_1 (!a0) (wrap64 (x12_2 + 1))) else (lockkeeperref15_Seen.l1 k2 a0 y239 t242 x9_1 x10_1 false (wrap64 (x12_2 + 1))))) = some r := H
            have A23 := Aside0.mk A230
            clear A230
            by_cases c24 : t247 = true
            ·subst c24
             have H1 : (lockkeeperref15_Seen.l1 k2 a0 y239 t242 x9_1 x10_1 true (wrap64 (x12_2 + 1))) = some r := by rw [if_pos rfl] at H; exact H
             clear H
             have H := H1
             clear H1
             have H' := Aside0.mk H
             clear H
             obtain ⟨Ao25, co25, eo25⟩ := Kd.R_slice HO_7.out
             subst eo25
             try go_wp2
             have n0_ := Aside0.mk (Kd.R_drew HO_7.out)
             have n1_ := Aside0.mk (Kd.R_drew HO_8.out)
             have n2_ := Aside0.mk (Kd.R_drew HO_9.out)
             have n3_ := Aside0.mk (below_drew1 HB.out)
             clear HO_7
             clear HO_8
             clear HO_9
             clear HB
             have HO_7 := n0_
             have HO_8 := n1_
             have HO_9 := n2_
             have HB := n3_
             clear n0_ n1_ n2_ n3_
             have p245 : 0 ≤ (x12_2 : Int) := of_decide_eq_true (by first | (with_reducible assumption) | assumption)
             have q245 : x12_2 < (y239.length : Int) := of_decide_eq_true (by first | (with_reducible assumption) | assumption)
             obtain ⟨ad245, e245, hx245_0⟩ := Kd.at_string (Kd.R_reads' HO_7.out).2.2 x12_2 p245 q245
             cases e245
             replace p245 := eq_true p245
             replace q245 := eq_true q245
             have p246 : 0 ≤ (x10_1 : Int) := of_decide_eq_true (by first | (with_reducible assumption) | assumption)
             have q246 : x10_1 < (t242.length : Int) := of_decide_eq_true (by first | (with_reducible assumption) | assumption)
             obtain ⟨ad246, e246, hx246_0, hx246_1⟩ := at_T35 (Kd.R_reads' HO_8.out).2.2 x10_1 p246 q246
             cases e246
             replace p246 := eq_true p246
             replace q246 := eq_true q246
             refine start_ (n := 25) (S := fun w' => w'.cell? (ad245.add (x12_2).toNat) = some (.string (rdOf ByteArray.empty y239 x12_2)) ∧ w'.cell? (ad246.add ((x10_1).toNat * 2)) = some (.string ((rd_T35 t242 x10_1).f0)) ∧ w'.cell? ⟨(ad246.add ((x10_1).toNat * 2)).block, (ad246.add ((x10_1).toNat * 2)).off + 1, none⟩ = some (.string ((rd_T35 t242 x10_1).f1))) (ds := []) lockkeeperref15_Seen_b0 (by kernel_rfl) rfl rfl ⟨hx245_0, hx246_0, hx246_1⟩ (fun hHeld => ?_); refine with_tabW lockkeeperref15_Seen.tab12 lockkeeperref15_Seen.bits12 (fun HT_ HW_ => ?_)
             generalize wr.drew = w26 at HO_7 HO_8 HO_9 HB hx245_0 hx246_0 hx246_1 hHeld ⊢
             refine pure_ (i := 0) (N := some 36) (v := ?_) (a' := ?_) lockkeeperref15_Seen_b1 rfl rfl (any_of HT_.out (by kernel_rfl)) (fun _ _ _ h => h) (Or.inl ⟨by rfl, ?_⟩) ?_ ?_
             rotate_left
             ·intro w'
              go_simp
              with_reducible rfl
             rotate_left
             ·simp only [Act.put, List.setIfInBounds_toArray, List.set_cons_zero, List.set_cons_succ, i64_w, i32_w]
              rfl
             refine pure_ (i := 1) (N := some 37) (v := ?_) (a' := ?_) lockkeeperref15_Seen_b2 rfl rfl (any_of HT_.out (by kernel_rfl)) (fun _ _ _ h => h) (Or.inl ⟨by rfl, ?_⟩) ?_ ?_
             rotate_left
             ·intro w'
              go_simp
              with_reducible rfl
             rotate_left
             ·simp only [Act.put, List.setIfInBounds_toArray, List.set_cons_zero, List.set_cons_succ, i64_w, i32_w]
              rfl
             refine pure_ (i := 2) (N := some 38) (v := ?_) (a' := ?_) lockkeeperref15_Seen_b3 rfl rfl (any_of HT_.out (by kernel_rfl)) (fun _ _ _ h => h) (Or.inl ⟨by rfl, ?_⟩) ?_ ?_
             rotate_left
             ·intro w'
              go_simp
              with_reducible rfl
             rotate_left
             ·simp only [Act.put, List.setIfInBounds_toArray, List.set_cons_zero, List.set_cons_succ, i64_w, i32_w]
              rfl
             refine pure_ (i := 3) (N := some 39) (v := ?_) (a' := ?_) lockkeeperref15_Seen_b4 rfl rfl (any_of HT_.out (by kernel_rfl)) (fun _ _ _ h => h) (Or.inl ⟨by rfl, ?_⟩) ?_ ?_
             rotate_left
             ·intro w'
              go_simp
              with_reducible rfl
             rotate_left
             ·simp only [Act.put, List.setIfInBounds_toArray, List.set_cons_zero, List.set_cons_succ, i64_w, i32_w]
              rfl
             refine pure_ (i := 4) (N := some 40) (v := ?_) (a' := ?_) lockkeeperref15_Seen_b5 rfl rfl (any_of HT_.out (by kernel_rfl)) (fun _ _ _ h => h) (Or.inl ⟨by rfl, ?_⟩) ?_ ?_
             rotate_left
             ·intro w'
              go_simp
              with_reducible rfl
             rotate_left
             ·simp only [Act.put, List.setIfInBounds_toArray, List.set_cons_zero, List.set_cons_succ, i64_w, i32_w]
              rfl
             refine pure_ (i := 6) (N := some 42) (v := ?_) (a' := ?_) lockkeeperref15_Seen_b22 rfl rfl (any_of HT_.out (by kernel_rfl)) (fun _ _ _ h => h) (Or.inl ⟨by rfl, ?_⟩) ?_ ?_
             rotate_left
             ·intro w'
              go_simp
              with_reducible rfl
             rotate_left
             ·simp only [Act.put, List.setIfInBounds_toArray, List.set_cons_zero, List.set_cons_succ, i64_w, i32_w]
              rfl
             refine pure_ (i := 7) (N := some 43) (v := ?_) (a' := ?_) lockkeeperref15_Seen_b23 rfl rfl (any_of HT_.out (by kernel_rfl)) (fun _ _ _ h => h) (Or.inl ⟨by rfl, ?_⟩) ?_ ?_
             rotate_left
             ·intro w'
              go_simp
              with_reducible rfl
             rotate_left
             ·simp only [Act.put, List.setIfInBounds_toArray, List.set_cons_zero, List.set_cons_succ, i64_w, i32_w]
              rfl
             refine pure_ (i := 8) (N := some 44) (v := ?_) (a' := ?_) lockkeeperref15_Seen_b24 rfl rfl (any_of HT_.out (by kernel_rfl)) (fun _ _ _ h => h) (Or.inl ⟨by rfl, ?_⟩) ?_ ?_
             rotate_left
             ·intro w'
              go_simp
              with_reducible rfl
             rotate_left
             ·simp only [Act.put, List.setIfInBounds_toArray, List.set_cons_zero, List.set_cons_succ, i64_w, i32_w]
              rfl
             refine pure_ (i := 9) (N := some 45) (v := ?_) (a' := ?_) lockkeeperref15_Seen_b25 rfl rfl (any_of HT_.out (by kernel_rfl)) (fun _ _ _ h => h) (Or.inl ⟨by rfl, ?_⟩) ?_ ?_
             rotate_left
             ·intro w'
              go_simp
              with_reducible rfl
             rotate_left
             ·simp only [Act.put, List.setIfInBounds_toArray, List.set_cons_zero, List.set_cons_succ, i64_w, i32_w]
              rfl
             refine take_ (i := 5) (N := some 41) (v := ?_) (a' := ?_) lockkeeperref15_Seen_b6 rfl rfl (take_ofW HT_.out HW_.out (by kernel_rfl)) (fun _ _ _ h => h) (Or.inl ⟨by rfl, ?_⟩) hHeld ?_ ?_
             rotate_left
             ·rintro w' ⟨s0, s1, s2⟩
              go_simp
              with_reducible rfl
             rotate_left
             ·simp only [Act.put, List.setIfInBounds_toArray, List.set_cons_zero, List.set_cons_succ, i64_w, i32_w]
              rfl
             refine take_ (i := 10) (N := some 46) (v := ?_) (a' := ?_) lockkeeperref15_Seen_b7 rfl rfl (take_ofW HT_.out HW_.out (by kernel_rfl)) (fun _ _ _ h => h) (Or.inl ⟨by rfl, ?_⟩) hHeld ?_ ?_
             rotate_left
             ·rintro w' ⟨s0, s1, s2⟩
              go_simp
              with_reducible rfl
             rotate_left
             ·simp only [Act.put, List.setIfInBounds_toArray, List.set_cons_zero, List.set_cons_succ, i64_w, i32_w]
              rfl
             refine one_ (i := 11) (N := some 47) lockkeeperref15_Seen_b8 rfl rfl (one_of HT_.out (by kernel_rfl)) (by decide) (fun K hK => ?_)
             refine goes_ Tryd.func33 (by kernel_rfl) rfl #[.string (rdOf ByteArray.empty y239 x12_2), .string ((rd_T35 t242 x10_1).f0)] (by rfl) rfl rfl (by (try simp only [List.map_toArray, List.map_cons, List.map_nil]); first | done | rfl | (simp only [List.length_drop, List.length_take]; rfl)) ?_
             with_reducible refine (lockkeeperref1_Fold.calls (rdOf ByteArray.empty y239 x12_2) ((rd_T35 t242 x10_1).f0) true _ A23.out).mono ?_
             rintro e w27 ⟨rfl, hb⟩
             have HS0_ := (hb.cell (World.block_lt_of_cell? _ _ (hHeld.1))).trans (hHeld.1)
             have HS1_ := (hb.cell (World.block_lt_of_cell? _ _ (hHeld.2.1))).trans (hHeld.2.1)
             have HS2_ := (hb.cell (World.block_lt_of_cell? _ _ (hHeld.2.2))).trans (hHeld.2.2)
             refine ⟨_, rfl, ?_⟩
             have n0_ := Aside0.mk (Kd.R_below (by (with_reducible repeat (first | apply Kd.R_alloc | apply Kd.R_drewN | apply Kd.R_drew)); exact HO_7.out) hb)
             have n1_ := Aside0.mk (Kd.R_below (by (with_reducible repeat (first | apply Kd.R_alloc | apply Kd.R_drewN | apply Kd.R_drew)); exact HO_8.out) hb)
             have n2_ := Aside0.mk (Kd.R_below (by (with_reducible repeat (first | apply Kd.R_alloc | apply Kd.R_drewN | apply Kd.R_drew)); exact HO_9.out) hb)
             have n3_ := Aside0.mk (below_step (by repeat (first | (with_reducible first | exact HB.out | apply below_alloc | apply pw_below_drewN | apply below_drew1) | exact HB.out)) hb)
             clear HO_7
             clear HO_8
             clear HO_9
             clear HB
             have HO_7 := n0_
             have HO_8 := n1_
             have HO_9 := n2_
             have HB := n3_
             clear n0_ n1_ n2_ n3_
             (try clear hb)
             (try clear hb2)
             (try clear hk)
             (try clear hi)
             refine hK.out _ _ ⟨HS0_, HS1_, HS2_⟩ (fun hHeld => ?_)
             clear hK K
             refine norm_ (a' := ?_) ?_ ?_
             rotate_left
             ·show Act.put _ (some 47) _ = _
              simp only [Act.put, List.setIfInBounds_toArray, List.set_cons_zero, List.set_cons_succ, i64_w, i32_w]
              rfl
             refine pure_ (i := 12) (N := some 48) (v := ?_) (a' := ?_) lockkeeperref15_Seen_b9 rfl rfl (any_of HT_.out (by kernel_rfl)) (fun _ _ _ h => h) (Or.inl ⟨by rfl, ?_⟩) ?_ ?_
             rotate_left
             ·intro w'
              go_simp
              with_reducible rfl
             rotate_left
             ·simp only [Act.put, List.setIfInBounds_toArray, List.set_cons_zero, List.set_cons_succ, i64_w, i32_w]
              rfl
             refine pure_ (i := 13) (N := some 49) (v := ?_) (a' := ?_) lockkeeperref15_Seen_b10 rfl rfl (any_of HT_.out (by kernel_rfl)) (fun _ _ _ h => h) (Or.inl ⟨by rfl, ?_⟩) ?_ ?_
             rotate_left
             ·intro w'
              go_simp
              with_reducible rfl
             rotate_left
             ·simp only [Act.put, List.setIfInBounds_toArray, List.set_cons_zero, List.set_cons_succ, i64_w, i32_w]
              rfl
             refine pure_ (i := 14) (N := some 50) (v := undef) (a' := ?_) lockkeeperref15_Seen_b11 rfl rfl (any_of HT_.out (by kernel_rfl)) (fun _ _ _ h => h) (Or.inr ⟨by rfl, rfl⟩) ?_ ?_
             rotate_left
             ·simp only [Act.put, List.setIfInBounds_toArray, List.set_cons_zero, List.set_cons_succ, i64_w, i32_w]
              rfl
             refine pure_ (i := 15) (N := some 51) (v := undef) (a' := ?_) lockkeeperref15_Seen_b12 rfl rfl (any_of HT_.out (by kernel_rfl)) (fun _ _ _ h => h) (Or.inr ⟨by rfl, rfl⟩) ?_ ?_
             rotate_left
             ·simp only [Act.put, List.setIfInBounds_toArray, List.set_cons_zero, List.set_cons_succ, i64_w, i32_w]
              rfl
             refine pure_ (i := 16) (N := some 52) (v := undef) (a' := ?_) lockkeeperref15_Seen_b13 rfl rfl (any_of HT_.out (by kernel_rfl)) (fun _ _ _ h => h) (Or.inr ⟨by rfl, rfl⟩) ?_ ?_
             rotate_left
             ·simp only [Act.put, List.setIfInBounds_toArray, List.set_cons_zero, List.set_cons_succ, i64_w, i32_w]
              rfl
             refine pure_ (i := 17) (N := some 53) (v := undef) (a' := ?_) lockkeeperref15_Seen_b14 rfl rfl (any_of HT_.out (by kernel_rfl)) (fun _ _ _ h => h) (Or.inr ⟨by rfl, rfl⟩) ?_ ?_
             rotate_left
             ·simp only [Act.put, List.setIfInBounds_toArray, List.set_cons_zero, List.set_cons_succ, i64_w, i32_w]
              rfl
             refine pure_ (i := 18) (N := some 54) (v := undef) (a' := ?_) lockkeeperref15_Seen_b15 rfl rfl (any_of HT_.out (by kernel_rfl)) (fun _ _ _ h => h) (Or.inr ⟨by rfl, rfl⟩) ?_ ?_
             rotate_left
             ·simp only [Act.put, List.setIfInBounds_toArray, List.set_cons_zero, List.set_cons_succ, i64_w, i32_w]
              rfl
             refine pure_ (i := 19) (N := some 55) (v := undef) (a' := ?_) lockkeeperref15_Seen_b16 rfl rfl (any_of HT_.out (by kernel_rfl)) (fun _ _ _ h => h) (Or.inr ⟨by rfl, rfl⟩) ?_ ?_
             rotate_left
             ·simp only [Act.put, List.setIfInBounds_toArray, List.set_cons_zero, List.set_cons_succ, i64_w, i32_w]
              rfl
             refine pure_ (i := 20) (N := some 56) (v := undef) (a' := ?_) lockkeeperref15_Seen_b17 rfl rfl (any_of HT_.out (by kernel_rfl)) (fun _ _ _ h => h) (Or.inr ⟨by rfl, rfl⟩) ?_ ?_
             rotate_left
             ·simp only [Act.put, List.setIfInBounds_toArray, List.set_cons_zero, List.set_cons_succ, i64_w, i32_w]
              rfl
             refine pure_ (i := 21) (N := some 57) (v := undef) (a' := ?_) lockkeeperref15_Seen_b18 rfl rfl (any_of HT_.out (by kernel_rfl)) (fun _ _ _ h => h) (Or.inr ⟨by rfl, rfl⟩) ?_ ?_
             rotate_left
             ·simp only [Act.put, List.setIfInBounds_toArray, List.set_cons_zero, List.set_cons_succ, i64_w, i32_w]
              rfl
             refine pure_ (i := 22) (N := some 58) (v := undef) (a' := ?_) lockkeeperref15_Seen_b19 rfl rfl (any_of HT_.out (by kernel_rfl)) (fun _ _ _ h => h) (Or.inr ⟨by rfl, rfl⟩) ?_ ?_
             rotate_left
             ·simp only [Act.put, List.setIfInBounds_toArray, List.set_cons_zero, List.set_cons_succ, i64_w, i32_w]
              rfl
             refine pure_ (i := 23) (N := some 59) (v := ?_) (a' := ?_) lockkeeperref15_Seen_b20 rfl rfl (any_of HT_.out (by kernel_rfl)) (fun _ _ _ h => h) (Or.inl ⟨by rfl, ?_⟩) ?_ ?_
             rotate_left
             ·intro w'
              go_simp
              with_reducible rfl
             rotate_left
             ·simp only [Act.put, List.setIfInBounds_toArray, List.set_cons_zero, List.set_cons_succ, i64_w, i32_w]
              rfl
             refine pure_ (i := 24) (N := some 11) (v := ?_) (a' := ?_) lockkeeperref15_Seen_b21 rfl rfl (any_of HT_.out (by kernel_rfl)) (fun _ _ _ h => h) (Or.inl ⟨by rfl, ?_⟩) ?_ ?_
             rotate_left
             ·intro w'
              go_simp
              with_reducible rfl
             rotate_left
             ·simp only [Act.put, List.setIfInBounds_toArray, List.set_cons_zero, List.set_cons_succ, i64_w, i32_w]
              rfl
             refine done_ (done_of HT_.out (by kernel_rfl)) ?_
             try go_wp2
             go_roundg k2
             case measure => have := HK1.out; have := HK2.out; omega
             case rel => exact ⟨(true), (wrap64 (x12_2 + 1)), (by first | rfl | (simp; done) | (simp [*]; done)), (by first | rfl | (simp; done) | (simp [*]; done)), H', ⟨by have := HK1.out; have := HK2.out; omega⟩, ⟨by (with_reducible repeat (first | apply Kd.R_alloc | apply Kd.R_drewN | apply Kd.R_drew)); exact HO_7.out⟩, ⟨by (with_reducible repeat (first | apply Kd.R_alloc | apply Kd.R_drewN | apply Kd.R_drew)); exact HO_8.out⟩, ⟨by (with_reducible repeat (first | apply Kd.R_alloc | apply Kd.R_drewN | apply Kd.R_drew)); exact HO_9.out⟩, ⟨by repeat (first | (with_reducible first | exact HB.out | apply below_alloc | apply pw_below_drewN | apply below_drew1) | exact HB.out)⟩⟩
            ·replace c24 := Bool.eq_false_iff.mpr c24
             subst c24
             have H1 : (if (rdOf ByteArray.empty y239 x12_2).toList = ([42] : List UInt8) then (lockkeeperref15_Seen.l1 k2 a0 y239 t242 x9_1 x10_1 (!a0) (wrap64 (x12_2 + 1))) else (lockkeeperref15_Seen.l1 k2 a0 y239 t242 x9_1 x10_1 false (wrap64 (x12_2 + 1)))) = some r := by rw [if_neg (show ¬ (false = true) by decide)] at H; exact H
             clear H
             have H := H1
             clear H1
             by_cases c28 : (rdOf ByteArray.empty y239 x12_2).toList = ([42] : List UInt8)
             ·rw [if_pos c28] at H
              have c28b0 : ((rdOf ByteArray.empty y239 x12_2).toList == ([42] : List UInt8)) = true := beq_iff_eq.mpr c28
              have c28b1 : ((rdOf ByteArray.empty y239 x12_2).toList != ([42] : List UInt8)) = false := bne_eq_false_iff_eq.mpr c28
              clear c28
              have H' := Aside0.mk H
              clear H
              obtain ⟨Ao29, co29, eo29⟩ := Kd.R_slice HO_7.out
              subst eo29
              try go_wp2
              have n0_ := Aside0.mk (Kd.R_drew HO_7.out)
              have n1_ := Aside0.mk (Kd.R_drew HO_8.out)
              have n2_ := Aside0.mk (Kd.R_drew HO_9.out)
              have n3_ := Aside0.mk (below_drew1 HB.out)
              clear HO_7
              clear HO_8
              clear HO_9
              clear HB
              have HO_7 := n0_
              have HO_8 := n1_
              have HO_9 := n2_
              have HB := n3_
              clear n0_ n1_ n2_ n3_
              have p245 : 0 ≤ (x12_2 : Int) := of_decide_eq_true (by first | (with_reducible assumption) | assumption)
              have q245 : x12_2 < (y239.length : Int) := of_decide_eq_true (by first | (with_reducible assumption) | assumption)
              obtain ⟨ad245, e245, hx245_0⟩ := Kd.at_string (Kd.R_reads' HO_7.out).2.2 x12_2 p245 q245
              cases e245
              replace p245 := eq_true p245
              replace q245 := eq_true q245
              have p246 : 0 ≤ (x10_1 : Int) := of_decide_eq_true (by first | (with_reducible assumption) | assumption)
              have q246 : x10_1 < (t242.length : Int) := of_decide_eq_true (by first | (with_reducible assumption) | assumption)
              obtain ⟨ad246, e246, hx246_0, hx246_1⟩ := at_T35 (Kd.R_reads' HO_8.out).2.2 x10_1 p246 q246
              cases e246
              replace p246 := eq_true p246
              replace q246 := eq_true q246
              have p248 : 0 ≤ (x12_2 : Int) := of_decide_eq_true (by first | (with_reducible assumption) | assumption)
              have q248 : x12_2 < (y239.length : Int) := of_decide_eq_true (by first | (with_reducible assumption) | assumption)
              obtain ⟨ad248, e248, hx248_0⟩ := Kd.at_string (Kd.R_reads' HO_7.out).2.2 x12_2 p248 q248
              obtain rfl : ad245 = ad248 := (by injection e248)
              replace p248 := eq_true p248
              replace q248 := eq_true q248
              refine start_ (n := 25) (S := fun w' => w'.cell? (ad245.add (x12_2).toNat) = some (.string (rdOf ByteArray.empty y239 x12_2)) ∧ w'.cell? (ad246.add ((x10_1).toNat * 2)) = some (.string ((rd_T35 t242 x10_1).f0)) ∧ w'.cell? ⟨(ad246.add ((x10_1).toNat * 2)).block, (ad246.add ((x10_1).toNat * 2)).off + 1, none⟩ = some (.string ((rd_T35 t242 x10_1).f1)) ∧ w'.cell? (ad245.add (x12_2).toNat) = some (.string (rdOf ByteArray.empty y239 x12_2))) (ds := []) lockkeeperref15_Seen_b0 (by kernel_rfl) rfl rfl ⟨hx245_0, hx246_0, hx246_1, hx248_0⟩ (fun hHeld => ?_); refine with_tabW lockkeeperref15_Seen.tab12 lockkeeperref15_Seen.bits12 (fun HT_ HW_ => ?_)
              generalize wr.drew = w30 at HO_7 HO_8 HO_9 HB hx245_0 hx246_0 hx246_1 hx248_0 hHeld ⊢
              refine pure_ (i := 0) (N := some 36) (v := ?_) (a' := ?_) lockkeeperref15_Seen_b1 rfl rfl (any_of HT_.out (by kernel_rfl)) (fun _ _ _ h => h) (Or.inl ⟨by rfl, ?_⟩) ?_ ?_
              rotate_left
              ·intro w'
               go_simp
               with_reducible rfl
              rotate_left
              ·simp only [Act.put, List.setIfInBounds_toArray, List.set_cons_zero, List.set_cons_succ, i64_w, i32_w]
               rfl
              refine pure_ (i := 1) (N := some 37) (v := ?_) (a' := ?_) lockkeeperref15_Seen_b2 rfl rfl (any_of HT_.out (by kernel_rfl)) (fun _ _ _ h => h) (Or.inl ⟨by rfl, ?_⟩) ?_ ?_
              rotate_left
              ·intro w'
               go_simp
               with_reducible rfl
              rotate_left
              ·simp only [Act.put, List.setIfInBounds_toArray, List.set_cons_zero, List.set_cons_succ, i64_w, i32_w]
               rfl
              refine pure_ (i := 2) (N := some 38) (v := ?_) (a' := ?_) lockkeeperref15_Seen_b3 rfl rfl (any_of HT_.out (by kernel_rfl)) (fun _ _ _ h => h) (Or.inl ⟨by rfl, ?_⟩) ?_ ?_
              rotate_left
              ·intro w'
               go_simp
               with_reducible rfl
              rotate_left
              ·simp only [Act.put, List.setIfInBounds_toArray, List.set_cons_zero, List.set_cons_succ, i64_w, i32_w]
               rfl
              refine pure_ (i := 3) (N := some 39) (v := ?_) (a' := ?_) lockkeeperref15_Seen_b4 rfl rfl (any_of HT_.out (by kernel_rfl)) (fun _ _ _ h => h) (Or.inl ⟨by rfl, ?_⟩) ?_ ?_
              rotate_left
              ·intro w'
               go_simp
               with_reducible rfl
              rotate_left
              ·simp only [Act.put, List.setIfInBounds_toArray, List.set_cons_zero, List.set_cons_succ, i64_w, i32_w]
               rfl
              refine pure_ (i := 4) (N := some 40) (v := ?_) (a' := ?_) lockkeeperref15_Seen_b5 rfl rfl (any_of HT_.out (by kernel_rfl)) (fun _ _ _ h => h) (Or.inl ⟨by rfl, ?_⟩) ?_ ?_
              rotate_left
              ·intro w'
               go_simp
               with_reducible rfl
              rotate_left
              ·simp only [Act.put, List.setIfInBounds_toArray, List.set_cons_zero, List.set_cons_succ, i64_w, i32_w]
               rfl
              refine pure_ (i := 6) (N := some 42) (v := ?_) (a' := ?_) lockkeeperref15_Seen_b22 rfl rfl (any_of HT_.out (by kernel_rfl)) (fun _ _ _ h => h) (Or.inl ⟨by rfl, ?_⟩) ?_ ?_
              rotate_left
              ·intro w'
               go_simp
               with_reducible rfl
              rotate_left
              ·simp only [Act.put, List.setIfInBounds_toArray, List.set_cons_zero, List.set_cons_succ, i64_w, i32_w]
               rfl
              refine pure_ (i := 7) (N := some 43) (v := ?_) (a' := ?_) lockkeeperref15_Seen_b23 rfl rfl (any_of HT_.out (by kernel_rfl)) (fun _ _ _ h => h) (Or.inl ⟨by rfl, ?_⟩) ?_ ?_
              rotate_left
              ·intro w'
               go_simp
               with_reducible rfl
              rotate_left
              ·simp only [Act.put, List.setIfInBounds_toArray, List.set_cons_zero, List.set_cons_succ, i64_w, i32_w]
               rfl
              refine pure_ (i := 8) (N := some 44) (v := ?_) (a' := ?_) lockkeeperref15_Seen_b24 rfl rfl (any_of HT_.out (by kernel_rfl)) (fun _ _ _ h => h) (Or.inl ⟨by rfl, ?_⟩) ?_ ?_
              rotate_left
              ·intro w'
               go_simp
               with_reducible rfl
              rotate_left
              ·simp only [Act.put, List.setIfInBounds_toArray, List.set_cons_zero, List.set_cons_succ, i64_w, i32_w]
               rfl
              refine pure_ (i := 9) (N := some 45) (v := ?_) (a' := ?_) lockkeeperref15_Seen_b25 rfl rfl (any_of HT_.out (by kernel_rfl)) (fun _ _ _ h => h) (Or.inl ⟨by rfl, ?_⟩) ?_ ?_
              rotate_left
              ·intro w'
               go_simp
               with_reducible rfl
              rotate_left
              ·simp only [Act.put, List.setIfInBounds_toArray, List.set_cons_zero, List.set_cons_succ, i64_w, i32_w]
               rfl
              refine take_ (i := 5) (N := some 41) (v := ?_) (a' := ?_) lockkeeperref15_Seen_b6 rfl rfl (take_ofW HT_.out HW_.out (by kernel_rfl)) (fun _ _ _ h => h) (Or.inl ⟨by rfl, ?_⟩) hHeld ?_ ?_
              rotate_left
              ·rintro w' ⟨s0, s1, s2, s3⟩
               go_simp
               with_reducible rfl
              rotate_left
              ·simp only [Act.put, List.setIfInBounds_toArray, List.set_cons_zero, List.set_cons_succ, i64_w, i32_w]
               rfl
              refine take_ (i := 10) (N := some 46) (v := ?_) (a' := ?_) lockkeeperref15_Seen_b7 rfl rfl (take_ofW HT_.out HW_.out (by kernel_rfl)) (fun _ _ _ h => h) (Or.inl ⟨by rfl, ?_⟩) hHeld ?_ ?_
              rotate_left
              ·rintro w' ⟨s0, s1, s2, s3⟩
               go_simp
               with_reducible rfl
              rotate_left
              ·simp only [Act.put, List.setIfInBounds_toArray, List.set_cons_zero, List.set_cons_succ, i64_w, i32_w]
               rfl
              refine one_ (i := 11) (N := some 47) lockkeeperref15_Seen_b8 rfl rfl (one_of HT_.out (by kernel_rfl)) (by decide) (fun K hK => ?_)
              refine goes_ Tryd.func33 (by kernel_rfl) rfl #[.string (rdOf ByteArray.empty y239 x12_2), .string ((rd_T35 t242 x10_1).f0)] (by rfl) rfl rfl (by (try simp only [List.map_toArray, List.map_cons, List.map_nil]); first | done | rfl | (simp only [List.length_drop, List.length_take]; rfl)) ?_
              with_reducible refine (lockkeeperref1_Fold.calls (rdOf ByteArray.empty y239 x12_2) ((rd_T35 t242 x10_1).f0) false _ A23.out).mono ?_
              rintro e w31 ⟨rfl, hb⟩
              have HS0_ := (hb.cell (World.block_lt_of_cell? _ _ (hHeld.1))).trans (hHeld.1)
              have HS1_ := (hb.cell (World.block_lt_of_cell? _ _ (hHeld.2.1))).trans (hHeld.2.1)
              have HS2_ := (hb.cell (World.block_lt_of_cell? _ _ (hHeld.2.2.1))).trans (hHeld.2.2.1)
              have HS3_ := (hb.cell (World.block_lt_of_cell? _ _ (hHeld.2.2.2))).trans (hHeld.2.2.2)
              refine ⟨_, rfl, ?_⟩
              have n0_ := Aside0.mk (Kd.R_below (by (with_reducible repeat (first | apply Kd.R_alloc | apply Kd.R_drewN | apply Kd.R_drew)); exact HO_7.out) hb)
              have n1_ := Aside0.mk (Kd.R_below (by (with_reducible repeat (first | apply Kd.R_alloc | apply Kd.R_drewN | apply Kd.R_drew)); exact HO_8.out) hb)
              have n2_ := Aside0.mk (Kd.R_below (by (with_reducible repeat (first | apply Kd.R_alloc | apply Kd.R_drewN | apply Kd.R_drew)); exact HO_9.out) hb)
              have n3_ := Aside0.mk (below_step (by repeat (first | (with_reducible first | exact HB.out | apply below_alloc | apply pw_below_drewN | apply below_drew1) | exact HB.out)) hb)
              clear HO_7
              clear HO_8
              clear HO_9
              clear HB
              have HO_7 := n0_
              have HO_8 := n1_
              have HO_9 := n2_
              have HB := n3_
              clear n0_ n1_ n2_ n3_
              (try clear hb)
              (try clear hb2)
              (try clear hk)
              (try clear hi)
              refine hK.out _ _ ⟨HS0_, HS1_, HS2_, HS3_⟩ (fun hHeld => ?_)
              clear hK K
              refine norm_ (a' := ?_) ?_ ?_
              rotate_left
              ·show Act.put _ (some 47) _ = _
               simp only [Act.put, List.setIfInBounds_toArray, List.set_cons_zero, List.set_cons_succ, i64_w, i32_w]
               rfl
              refine pure_ (i := 12) (N := some 48) (v := ?_) (a' := ?_) lockkeeperref15_Seen_b9 rfl rfl (any_of HT_.out (by kernel_rfl)) (fun _ _ _ h => h) (Or.inl ⟨by rfl, ?_⟩) ?_ ?_
              rotate_left
              ·intro w'
               go_simp
               with_reducible rfl
              rotate_left
              ·simp only [Act.put, List.setIfInBounds_toArray, List.set_cons_zero, List.set_cons_succ, i64_w, i32_w]
               rfl
              refine pure_ (i := 13) (N := some 49) (v := ?_) (a' := ?_) lockkeeperref15_Seen_b10 rfl rfl (any_of HT_.out (by kernel_rfl)) (fun _ _ _ h => h) (Or.inl ⟨by rfl, ?_⟩) ?_ ?_
              rotate_left
              ·intro w'
               go_simp
               with_reducible rfl
              rotate_left
              ·simp only [Act.put, List.setIfInBounds_toArray, List.set_cons_zero, List.set_cons_succ, i64_w, i32_w]
               rfl
              refine pure_ (i := 14) (N := some 50) (v := ?_) (a' := ?_) lockkeeperref15_Seen_b11 rfl rfl (any_of HT_.out (by kernel_rfl)) (fun _ _ _ h => h) (Or.inl ⟨by rfl, ?_⟩) ?_ ?_
              rotate_left
              ·intro w'
               go_simp
               with_reducible rfl
              rotate_left
              ·simp only [Act.put, List.setIfInBounds_toArray, List.set_cons_zero, List.set_cons_succ, i64_w, i32_w]
               rfl
              refine pure_ (i := 15) (N := some 51) (v := ?_) (a' := ?_) lockkeeperref15_Seen_b12 rfl rfl (any_of HT_.out (by kernel_rfl)) (fun _ _ _ h => h) (Or.inl ⟨by rfl, ?_⟩) ?_ ?_
              rotate_left
              ·intro w'
               go_simp
               with_reducible rfl
              rotate_left
              ·simp only [Act.put, List.setIfInBounds_toArray, List.set_cons_zero, List.set_cons_succ, i64_w, i32_w]
               rfl
              refine pure_ (i := 16) (N := some 52) (v := ?_) (a' := ?_) lockkeeperref15_Seen_b13 rfl rfl (any_of HT_.out (by kernel_rfl)) (fun _ _ _ h => h) (Or.inl ⟨by rfl, ?_⟩) ?_ ?_
              rotate_left
              ·intro w'
               go_simp
               with_reducible rfl
              rotate_left
              ·simp only [Act.put, List.setIfInBounds_toArray, List.set_cons_zero, List.set_cons_succ, i64_w, i32_w]
               rfl
              refine take_ (i := 17) (N := some 53) (v := ?_) (a' := ?_) lockkeeperref15_Seen_b14 rfl rfl (take_ofW HT_.out HW_.out (by kernel_rfl)) (fun _ _ _ h => h) (Or.inl ⟨by rfl, ?_⟩) hHeld ?_ ?_
              rotate_left
              ·rintro w' ⟨s0, s1, s2, s3⟩
               go_simp
               with_reducible rfl
              rotate_left
              ·simp only [Act.put, List.setIfInBounds_toArray, List.set_cons_zero, List.set_cons_succ, i64_w, i32_w]
               rfl
              refine pure_ (i := 18) (N := some 54) (v := ?_) (a' := ?_) lockkeeperref15_Seen_b15 rfl rfl (any_of HT_.out (by kernel_rfl)) (fun _ _ _ h => h) (Or.inl ⟨by rfl, ?_⟩) ?_ ?_
              rotate_left
              ·intro w'
               go_simp
               with_reducible rfl
              rotate_left
              ·simp only [Act.put, List.setIfInBounds_toArray, List.set_cons_zero, List.set_cons_succ, i64_w, i32_w]
               rfl
              refine pure_ (i := 19) (N := some 55) (v := ?_) (a' := ?_) lockkeeperref15_Seen_b16 rfl rfl (any_of HT_.out (by kernel_rfl)) (fun _ _ _ h => h) (Or.inl ⟨by rfl, ?_⟩) ?_ ?_
              rotate_left
              ·intro w'
               go_simp
               with_reducible rfl
              rotate_left
              ·simp only [Act.put, List.setIfInBounds_toArray, List.set_cons_zero, List.set_cons_succ, i64_w, i32_w]
               rfl
              refine pure_ (i := 20) (N := some 56) (v := ?_) (a' := ?_) lockkeeperref15_Seen_b17 rfl rfl (any_of HT_.out (by kernel_rfl)) (fun _ _ _ h => h) (Or.inl ⟨by rfl, ?_⟩) ?_ ?_
              rotate_left
              ·intro w'
               go_simp
               with_reducible rfl
              rotate_left
              ·simp only [Act.put, List.setIfInBounds_toArray, List.set_cons_zero, List.set_cons_succ, i64_w, i32_w]
               rfl
              refine pure_ (i := 21) (N := some 57) (v := ?_) (a' := ?_) lockkeeperref15_Seen_b18 rfl rfl (any_of HT_.out (by kernel_rfl)) (fun _ _ _ h => h) (Or.inl ⟨by rfl, ?_⟩) ?_ ?_
              rotate_left
              ·intro w'
               go_simp
               with_reducible rfl
              rotate_left
              ·simp only [Act.put, List.setIfInBounds_toArray, List.set_cons_zero, List.set_cons_succ, i64_w, i32_w]
               rfl
              refine pure_ (i := 22) (N := some 58) (v := ?_) (a' := ?_) lockkeeperref15_Seen_b19 rfl rfl (any_of HT_.out (by kernel_rfl)) (fun _ _ _ h => h) (Or.inl ⟨by rfl, ?_⟩) ?_ ?_
              rotate_left
              ·intro w'
               go_simp
               with_reducible rfl
              rotate_left
              ·simp only [Act.put, List.setIfInBounds_toArray, List.set_cons_zero, List.set_cons_succ, i64_w, i32_w]
               rfl
              refine pure_ (i := 23) (N := some 59) (v := ?_) (a' := ?_) lockkeeperref15_Seen_b20 rfl rfl (any_of HT_.out (by kernel_rfl)) (fun _ _ _ h => h) (Or.inl ⟨by rfl, ?_⟩) ?_ ?_
              rotate_left
              ·intro w'
               go_simp
               with_reducible rfl
              rotate_left
              ·simp only [Act.put, List.setIfInBounds_toArray, List.set_cons_zero, List.set_cons_succ, i64_w, i32_w]
               rfl
              refine pure_ (i := 24) (N := some 11) (v := ?_) (a' := ?_) lockkeeperref15_Seen_b21 rfl rfl (any_of HT_.out (by kernel_rfl)) (fun _ _ _ h => h) (Or.inl ⟨by rfl, ?_⟩) ?_ ?_
              rotate_left
              ·intro w'
               go_simp
               with_reducible rfl
              rotate_left
              ·simp only [Act.put, List.setIfInBounds_toArray, List.set_cons_zero, List.set_cons_succ, i64_w, i32_w]
               rfl
              refine done_ (done_of HT_.out (by kernel_rfl)) ?_
              try go_wp2
              go_roundg k2
              case measure => have := HK1.out; have := HK2.out; omega
              case rel => exact ⟨(!a0), (wrap64 (x12_2 + 1)), (by first | rfl | (simp; done) | (simp [*]; done)), (by first | rfl | (simp; done) | (simp [*]; done)), H', ⟨by have := HK1.out; have := HK2.out; omega⟩, ⟨by (with_reducible repeat (first | apply Kd.R_alloc | apply Kd.R_drewN | apply Kd.R_drew)); exact HO_7.out⟩, ⟨by (with_reducible repeat (first | apply Kd.R_alloc | apply Kd.R_drewN | apply Kd.R_drew)); exact HO_8.out⟩, ⟨by (with_reducible repeat (first | apply Kd.R_alloc | apply Kd.R_drewN | apply Kd.R_drew)); exact HO_9.out⟩, ⟨by repeat (first | (with_reducible first | exact HB.out | apply below_alloc | apply pw_below_drewN | apply below_drew1) | exact HB.out)⟩⟩
             ·rw [if_neg c28] at H
              have c28b0 : ((rdOf ByteArray.empty y239 x12_2).toList == ([42] : List UInt8)) = false := beq_eq_false_iff_ne.mpr c28
              have c28b1 : ((rdOf ByteArray.empty y239 x12_2).toList != ([42] : List UInt8)) = true := bne_iff_ne.mpr c28
              have H' := Aside0.mk H
              clear H
              obtain ⟨Ao32, co32, eo32⟩ := Kd.R_slice HO_7.out
              subst eo32
              try go_wp2
              have n0_ := Aside0.mk (Kd.R_drew HO_7.out)
              have n1_ := Aside0.mk (Kd.R_drew HO_8.out)
              have n2_ := Aside0.mk (Kd.R_drew HO_9.out)
              have n3_ := Aside0.mk (below_drew1 HB.out)
              clear HO_7
              clear HO_8
              clear HO_9
              clear HB
              have HO_7 := n0_
              have HO_8 := n1_
              have HO_9 := n2_
              have HB := n3_
              clear n0_ n1_ n2_ n3_
              have p245 : 0 ≤ (x12_2 : Int) := of_decide_eq_true (by first | (with_reducible assumption) | assumption)
              have q245 : x12_2 < (y239.length : Int) := of_decide_eq_true (by first | (with_reducible assumption) | assumption)
              obtain ⟨ad245, e245, hx245_0⟩ := Kd.at_string (Kd.R_reads' HO_7.out).2.2 x12_2 p245 q245
              cases e245
              replace p245 := eq_true p245
              replace q245 := eq_true q245
              have p246 : 0 ≤ (x10_1 : Int) := of_decide_eq_true (by first | (with_reducible assumption) | assumption)
              have q246 : x10_1 < (t242.length : Int) := of_decide_eq_true (by first | (with_reducible assumption) | assumption)
              obtain ⟨ad246, e246, hx246_0, hx246_1⟩ := at_T35 (Kd.R_reads' HO_8.out).2.2 x10_1 p246 q246
              cases e246
              replace p246 := eq_true p246
              replace q246 := eq_true q246
              have p248 : 0 ≤ (x12_2 : Int) := of_decide_eq_true (by first | (with_reducible assumption) | assumption)
              have q248 : x12_2 < (y239.length : Int) := of_decide_eq_true (by first | (with_reducible assumption) | assumption)
              obtain ⟨ad248, e248, hx248_0⟩ := Kd.at_string (Kd.R_reads' HO_7.out).2.2 x12_2 p248 q248
              obtain rfl : ad245 = ad248 := (by injection e248)
              replace p248 := eq_true p248
              replace q248 := eq_true q248
              refine start_ (n := 25) (S := fun w' => w'.cell? (ad245.add (x12_2).toNat) = some (.string (rdOf ByteArray.empty y239 x12_2)) ∧ w'.cell? (ad246.add ((x10_1).toNat * 2)) = some (.string ((rd_T35 t242 x10_1).f0)) ∧ w'.cell? ⟨(ad246.add ((x10_1).toNat * 2)).block, (ad246.add ((x10_1).toNat * 2)).off + 1, none⟩ = some (.string ((rd_T35 t242 x10_1).f1)) ∧ w'.cell? (ad245.add (x12_2).toNat) = some (.string (rdOf ByteArray.empty y239 x12_2))) (ds := []) lockkeeperref15_Seen_b0 (by kernel_rfl) rfl rfl ⟨hx245_0, hx246_0, hx246_1, hx248_0⟩ (fun hHeld => ?_); refine with_tabW lockkeeperref15_Seen.tab12 lockkeeperref15_Seen.bits12 (fun HT_ HW_ => ?_)
              generalize wr.drew = w33 at HO_7 HO_8 HO_9 HB hx245_0 hx246_0 hx246_1 hx248_0 hHeld ⊢
              refine pure_ (i := 0) (N := some 36) (v := ?_) (a' := ?_) lockkeeperref15_Seen_b1 rfl rfl (any_of HT_.out (by kernel_rfl)) (fun _ _ _ h => h) (Or.inl ⟨by rfl, ?_⟩) ?_ ?_
              rotate_left
              ·intro w'
               go_simp
               with_reducible rfl
              rotate_left
              ·simp only [Act.put, List.setIfInBounds_toArray, List.set_cons_zero, List.set_cons_succ, i64_w, i32_w]
               rfl
              refine pure_ (i := 1) (N := some 37) (v := ?_) (a' := ?_) lockkeeperref15_Seen_b2 rfl rfl (any_of HT_.out (by kernel_rfl)) (fun _ _ _ h => h) (Or.inl ⟨by rfl, ?_⟩) ?_ ?_
              rotate_left
              ·intro w'
               go_simp
               with_reducible rfl
              rotate_left
              ·simp only [Act.put, List.setIfInBounds_toArray, List.set_cons_zero, List.set_cons_succ, i64_w, i32_w]
               rfl
              refine pure_ (i := 2) (N := some 38) (v := ?_) (a' := ?_) lockkeeperref15_Seen_b3 rfl rfl (any_of HT_.out (by kernel_rfl)) (fun _ _ _ h => h) (Or.inl ⟨by rfl, ?_⟩) ?_ ?_
              rotate_left
              ·intro w'
               go_simp
               with_reducible rfl
              rotate_left
              ·simp only [Act.put, List.setIfInBounds_toArray, List.set_cons_zero, List.set_cons_succ, i64_w, i32_w]
               rfl
              refine pure_ (i := 3) (N := some 39) (v := ?_) (a' := ?_) lockkeeperref15_Seen_b4 rfl rfl (any_of HT_.out (by kernel_rfl)) (fun _ _ _ h => h) (Or.inl ⟨by rfl, ?_⟩) ?_ ?_
              rotate_left
              ·intro w'
               go_simp
               with_reducible rfl
              rotate_left
              ·simp only [Act.put, List.setIfInBounds_toArray, List.set_cons_zero, List.set_cons_succ, i64_w, i32_w]
               rfl
              refine pure_ (i := 4) (N := some 40) (v := ?_) (a' := ?_) lockkeeperref15_Seen_b5 rfl rfl (any_of HT_.out (by kernel_rfl)) (fun _ _ _ h => h) (Or.inl ⟨by rfl, ?_⟩) ?_ ?_
              rotate_left
              ·intro w'
               go_simp
               with_reducible rfl
              rotate_left
              ·simp only [Act.put, List.setIfInBounds_toArray, List.set_cons_zero, List.set_cons_succ, i64_w, i32_w]
               rfl
              refine pure_ (i := 6) (N := some 42) (v := ?_) (a' := ?_) lockkeeperref15_Seen_b22 rfl rfl (any_of HT_.out (by kernel_rfl)) (fun _ _ _ h => h) (Or.inl ⟨by rfl, ?_⟩) ?_ ?_
              rotate_left
              ·intro w'
               go_simp
               with_reducible rfl
              rotate_left
              ·simp only [Act.put, List.setIfInBounds_toArray, List.set_cons_zero, List.set_cons_succ, i64_w, i32_w]
               rfl
              refine pure_ (i := 7) (N := some 43) (v := ?_) (a' := ?_) lockkeeperref15_Seen_b23 rfl rfl (any_of HT_.out (by kernel_rfl)) (fun _ _ _ h => h) (Or.inl ⟨by rfl, ?_⟩) ?_ ?_
              rotate_left
              ·intro w'
               go_simp
               with_reducible rfl
              rotate_left
              ·simp only [Act.put, List.setIfInBounds_toArray, List.set_cons_zero, List.set_cons_succ, i64_w, i32_w]
               rfl
              refine pure_ (i := 8) (N := some 44) (v := ?_) (a' := ?_) lockkeeperref15_Seen_b24 rfl rfl (any_of HT_.out (by kernel_rfl)) (fun _ _ _ h => h) (Or.inl ⟨by rfl, ?_⟩) ?_ ?_
              rotate_left
              ·intro w'
               go_simp
               with_reducible rfl
              rotate_left
              ·simp only [Act.put, List.setIfInBounds_toArray, List.set_cons_zero, List.set_cons_succ, i64_w, i32_w]
               rfl
              refine pure_ (i := 9) (N := some 45) (v := ?_) (a' := ?_) lockkeeperref15_Seen_b25 rfl rfl (any_of HT_.out (by kernel_rfl)) (fun _ _ _ h => h) (Or.inl ⟨by rfl, ?_⟩) ?_ ?_
              rotate_left
              ·intro w'
               go_simp
               with_reducible rfl
              rotate_left
              ·simp only [Act.put, List.setIfInBounds_toArray, List.set_cons_zero, List.set_cons_succ, i64_w, i32_w]
               rfl
              refine take_ (i := 5) (N := some 41) (v := ?_) (a' := ?_) lockkeeperref15_Seen_b6 rfl rfl (take_ofW HT_.out HW_.out (by kernel_rfl)) (fun _ _ _ h => h) (Or.inl ⟨by rfl, ?_⟩) hHeld ?_ ?_
              rotate_left
              ·rintro w' ⟨s0, s1, s2, s3⟩
               go_simp
               with_reducible rfl
              rotate_left
              ·simp only [Act.put, List.setIfInBounds_toArray, List.set_cons_zero, List.set_cons_succ, i64_w, i32_w]
               rfl
              refine take_ (i := 10) (N := some 46) (v := ?_) (a' := ?_) lockkeeperref15_Seen_b7 rfl rfl (take_ofW HT_.out HW_.out (by kernel_rfl)) (fun _ _ _ h => h) (Or.inl ⟨by rfl, ?_⟩) hHeld ?_ ?_
              rotate_left
              ·rintro w' ⟨s0, s1, s2, s3⟩
               go_simp
               with_reducible rfl
              rotate_left
              ·simp only [Act.put, List.setIfInBounds_toArray, List.set_cons_zero, List.set_cons_succ, i64_w, i32_w]
               rfl
              refine one_ (i := 11) (N := some 47) lockkeeperref15_Seen_b8 rfl rfl (one_of HT_.out (by kernel_rfl)) (by decide) (fun K hK => ?_)
              refine goes_ Tryd.func33 (by kernel_rfl) rfl #[.string (rdOf ByteArray.empty y239 x12_2), .string ((rd_T35 t242 x10_1).f0)] (by rfl) rfl rfl (by (try simp only [List.map_toArray, List.map_cons, List.map_nil]); first | done | rfl | (simp only [List.length_drop, List.length_take]; rfl)) ?_
              with_reducible refine (lockkeeperref1_Fold.calls (rdOf ByteArray.empty y239 x12_2) ((rd_T35 t242 x10_1).f0) false _ A23.out).mono ?_
              rintro e w34 ⟨rfl, hb⟩
              have HS0_ := (hb.cell (World.block_lt_of_cell? _ _ (hHeld.1))).trans (hHeld.1)
              have HS1_ := (hb.cell (World.block_lt_of_cell? _ _ (hHeld.2.1))).trans (hHeld.2.1)
              have HS2_ := (hb.cell (World.block_lt_of_cell? _ _ (hHeld.2.2.1))).trans (hHeld.2.2.1)
              have HS3_ := (hb.cell (World.block_lt_of_cell? _ _ (hHeld.2.2.2))).trans (hHeld.2.2.2)
              refine ⟨_, rfl, ?_⟩
              have n0_ := Aside0.mk (Kd.R_below (by (with_reducible repeat (first | apply Kd.R_alloc | apply Kd.R_drewN | apply Kd.R_drew)); exact HO_7.out) hb)
              have n1_ := Aside0.mk (Kd.R_below (by (with_reducible repeat (first | apply Kd.R_alloc | apply Kd.R_drewN | apply Kd.R_drew)); exact HO_8.out) hb)
              have n2_ := Aside0.mk (Kd.R_below (by (with_reducible repeat (first | apply Kd.R_alloc | apply Kd.R_drewN | apply Kd.R_drew)); exact HO_9.out) hb)
              have n3_ := Aside0.mk (below_step (by repeat (first | (with_reducible first | exact HB.out | apply below_alloc | apply pw_below_drewN | apply below_drew1) | exact HB.out)) hb)
              clear HO_7
              clear HO_8
              clear HO_9
              clear HB
              have HO_7 := n0_
              have HO_8 := n1_
              have HO_9 := n2_
              have HB := n3_
              clear n0_ n1_ n2_ n3_
              (try clear hb)
              (try clear hb2)
              (try clear hk)
              (try clear hi)
              refine hK.out _ _ ⟨HS0_, HS1_, HS2_, HS3_⟩ (fun hHeld => ?_)
              clear hK K
              refine norm_ (a' := ?_) ?_ ?_
              rotate_left
              ·show Act.put _ (some 47) _ = _
               simp only [Act.put, List.setIfInBounds_toArray, List.set_cons_zero, List.set_cons_succ, i64_w, i32_w]
               rfl
              refine pure_ (i := 12) (N := some 48) (v := ?_) (a' := ?_) lockkeeperref15_Seen_b9 rfl rfl (any_of HT_.out (by kernel_rfl)) (fun _ _ _ h => h) (Or.inl ⟨by rfl, ?_⟩) ?_ ?_
              rotate_left
              ·intro w'
               go_simp
               with_reducible rfl
              rotate_left
              ·simp only [Act.put, List.setIfInBounds_toArray, List.set_cons_zero, List.set_cons_succ, i64_w, i32_w]
               rfl
              refine pure_ (i := 13) (N := some 49) (v := ?_) (a' := ?_) lockkeeperref15_Seen_b10 rfl rfl (any_of HT_.out (by kernel_rfl)) (fun _ _ _ h => h) (Or.inl ⟨by rfl, ?_⟩) ?_ ?_
              rotate_left
              ·intro w'
               go_simp
               with_reducible rfl
              rotate_left
              ·simp only [Act.put, List.setIfInBounds_toArray, List.set_cons_zero, List.set_cons_succ, i64_w, i32_w]
               rfl
              refine pure_ (i := 14) (N := some 50) (v := ?_) (a' := ?_) lockkeeperref15_Seen_b11 rfl rfl (any_of HT_.out (by kernel_rfl)) (fun _ _ _ h => h) (Or.inl ⟨by rfl, ?_⟩) ?_ ?_
              rotate_left
              ·intro w'
               go_simp
               with_reducible rfl
              rotate_left
              ·simp only [Act.put, List.setIfInBounds_toArray, List.set_cons_zero, List.set_cons_succ, i64_w, i32_w]
               rfl
              refine pure_ (i := 15) (N := some 51) (v := ?_) (a' := ?_) lockkeeperref15_Seen_b12 rfl rfl (any_of HT_.out (by kernel_rfl)) (fun _ _ _ h => h) (Or.inl ⟨by rfl, ?_⟩) ?_ ?_
              rotate_left
              ·intro w'
               go_simp
               with_reducible rfl
              rotate_left
              ·simp only [Act.put, List.setIfInBounds_toArray, List.set_cons_zero, List.set_cons_succ, i64_w, i32_w]
               rfl
              refine pure_ (i := 16) (N := some 52) (v := ?_) (a' := ?_) lockkeeperref15_Seen_b13 rfl rfl (any_of HT_.out (by kernel_rfl)) (fun _ _ _ h => h) (Or.inl ⟨by rfl, ?_⟩) ?_ ?_
              rotate_left
              ·intro w'
               go_simp
               with_reducible rfl
              rotate_left
              ·simp only [Act.put, List.setIfInBounds_toArray, List.set_cons_zero, List.set_cons_succ, i64_w, i32_w]
               rfl
              refine take_ (i := 17) (N := some 53) (v := ?_) (a' := ?_) lockkeeperref15_Seen_b14 rfl rfl (take_ofW HT_.out HW_.out (by kernel_rfl)) (fun _ _ _ h => h) (Or.inl ⟨by rfl, ?_⟩) hHeld ?_ ?_
              rotate_left
              ·rintro w' ⟨s0, s1, s2, s3⟩
               go_simp
               with_reducible rfl
              rotate_left
              ·simp only [Act.put, List.setIfInBounds_toArray, List.set_cons_zero, List.set_cons_succ, i64_w, i32_w]
               rfl
              refine pure_ (i := 18) (N := some 54) (v := ?_) (a' := ?_) lockkeeperref15_Seen_b15 rfl rfl (any_of HT_.out (by kernel_rfl)) (fun _ _ _ h => h) (Or.inl ⟨by rfl, ?_⟩) ?_ ?_
              rotate_left
              ·intro w'
               go_simp
               with_reducible rfl
              rotate_left
              ·simp only [Act.put, List.setIfInBounds_toArray, List.set_cons_zero, List.set_cons_succ, i64_w, i32_w]
               rfl
              refine pure_ (i := 19) (N := some 55) (v := ?_) (a' := ?_) lockkeeperref15_Seen_b16 rfl rfl (any_of HT_.out (by kernel_rfl)) (fun _ _ _ h => h) (Or.inl ⟨by rfl, ?_⟩) ?_ ?_
              rotate_left
              ·intro w'
               go_simp
               with_reducible rfl
              rotate_left
              ·simp only [Act.put, List.setIfInBounds_toArray, List.set_cons_zero, List.set_cons_succ, i64_w, i32_w]
               rfl
              refine pure_ (i := 20) (N := some 56) (v := undef) (a' := ?_) lockkeeperref15_Seen_b17 rfl rfl (any_of HT_.out (by kernel_rfl)) (fun _ _ _ h => h) (Or.inr ⟨by rfl, rfl⟩) ?_ ?_
              rotate_left
              ·simp only [Act.put, List.setIfInBounds_toArray, List.set_cons_zero, List.set_cons_succ, i64_w, i32_w]
               rfl
              refine pure_ (i := 21) (N := some 57) (v := undef) (a' := ?_) lockkeeperref15_Seen_b18 rfl rfl (any_of HT_.out (by kernel_rfl)) (fun _ _ _ h => h) (Or.inr ⟨by rfl, rfl⟩) ?_ ?_
              rotate_left
              ·simp only [Act.put, List.setIfInBounds_toArray, List.set_cons_zero, List.set_cons_succ, i64_w, i32_w]
               rfl
              refine pure_ (i := 22) (N := some 58) (v := ?_) (a' := ?_) lockkeeperref15_Seen_b19 rfl rfl (any_of HT_.out (by kernel_rfl)) (fun _ _ _ h => h) (Or.inl ⟨by rfl, ?_⟩) ?_ ?_
              rotate_left
              ·intro w'
               go_simp
               with_reducible rfl
              rotate_left
              ·simp only [Act.put, List.setIfInBounds_toArray, List.set_cons_zero, List.set_cons_succ, i64_w, i32_w]
               rfl
              refine pure_ (i := 23) (N := some 59) (v := ?_) (a' := ?_) lockkeeperref15_Seen_b20 rfl rfl (any_of HT_.out (by kernel_rfl)) (fun _ _ _ h => h) (Or.inl ⟨by rfl, ?_⟩) ?_ ?_
              rotate_left
              ·intro w'
               go_simp
               with_reducible rfl
              rotate_left
              ·simp only [Act.put, List.setIfInBounds_toArray, List.set_cons_zero, List.set_cons_succ, i64_w, i32_w]
               rfl
              refine pure_ (i := 24) (N := some 11) (v := ?_) (a' := ?_) lockkeeperref15_Seen_b21 rfl rfl (any_of HT_.out (by kernel_rfl)) (fun _ _ _ h => h) (Or.inl ⟨by rfl, ?_⟩) ?_ ?_
              rotate_left
              ·intro w'
               go_simp
               with_reducible rfl
              rotate_left
              ·simp only [Act.put, List.setIfInBounds_toArray, List.set_cons_zero, List.set_cons_succ, i64_w, i32_w]
               rfl
              refine done_ (done_of HT_.out (by kernel_rfl)) ?_
              try go_wp2
              go_roundg k2
              case measure => have := HK1.out; have := HK2.out; omega
              case rel => exact ⟨(false), (wrap64 (x12_2 + 1)), (by first | rfl | (simp; done) | (simp [*]; done)), (by first | rfl | (simp; done) | (simp [*]; done)), H', ⟨by have := HK1.out; have := HK2.out; omega⟩, ⟨by (with_reducible repeat (first | apply Kd.R_alloc | apply Kd.R_drewN | apply Kd.R_drew)); exact HO_7.out⟩, ⟨by (with_reducible repeat (first | apply Kd.R_alloc | apply Kd.R_drewN | apply Kd.R_drew)); exact HO_8.out⟩, ⟨by (with_reducible repeat (first | apply Kd.R_alloc | apply Kd.R_drewN | apply Kd.R_drew)); exact HO_9.out⟩, ⟨by repeat (first | (with_reducible first | exact HB.out | apply below_alloc | apply pw_below_drewN | apply below_drew1) | exact HB.out)⟩⟩
           ·rw [if_neg c22] at H
            exact absurd H (by simp)
          ·rw [if_neg c21] at H
           exact absurd H (by simp)
         ·rw [if_neg c20] at H
          exact absurd H (by simp)
       ·rw [if_neg c16] at H
        have c16b0 : decide (x12_2 < (y239.length : Int)) = false := decide_eq_false c16
        clear c16
        by_cases c35 : x11_2 = true
        ·subst c35
         have H1 : (if 0 ≤ x10_1 then (if x10_1 < (t242.length : Int) then (if ((rd_T35 t242 x10_1).f0).toList = ([115, 101, 116, 45, 99, 111, 111, 107, 105, 101] : List UInt8) then (lockkeeperref15_Seen.l0 k2 a0 y239 t242 x9_1 (wrap64 (x10_1 + 1))) else (if ((rd_T35 t242 x10_1).f0).toList = ([115, 101, 116, 45, 99, 111, 111, 107, 105, 101, 50] : List UInt8) then (lockkeeperref15_Seen.l0 k2 a0 y239 t242 x9_1 (wrap64 (x10_1 + 1))) else (if x9_1.length < 4398046511104 then (lockkeeperref15_Seen.l0 k2 a0 y239 t242 (x9_1 ++ [(⟨(rd_T35 t242 x10_1).f0, (rd_T35 t242 x10_1).f1⟩ : S35)]) (wrap64 (x10_1 + 1))) else (none)))) else (none)) else (none)) = some r := by rw [if_pos rfl] at H; exact H
         clear H
         have H := H1
         clear H1
         by_cases c36 : 0 ≤ x10_1
         ·rw [if_pos c36] at H
          have c36b0 : decide (0 ≤ x10_1) = true := decide_eq_true c36
          clear c36
          by_cases c37 : x10_1 < (t242.length : Int)
          ·rw [if_pos c37] at H
           have c37b0 : decide (x10_1 < (t242.length : Int)) = true := decide_eq_true c37
           clear c37
           by_cases c38 : ((rd_T35 t242 x10_1).f0).toList = ([115, 101, 116, 45, 99, 111, 111, 107, 105, 101] : List UInt8)
           ·rw [if_pos c38] at H
            have c38b0 : (((rd_T35 t242 x10_1).f0).toList == ([115, 101, 116, 45, 99, 111, 111, 107, 105, 101] : List UInt8)) = true := beq_iff_eq.mpr c38
            have c38b1 : (((rd_T35 t242 x10_1).f0).toList != ([115, 101, 116, 45, 99, 111, 111, 107, 105, 101] : List UInt8)) = false := bne_eq_false_iff_eq.mpr c38
            clear c38
            have H' := Aside0.mk H
            clear H
            obtain ⟨Ao39, co39, eo39⟩ := Kd.R_slice HO_7.out
            subst eo39
            have p249 : 0 ≤ (x10_1 : Int) := of_decide_eq_true (by first | (with_reducible assumption) | assumption)
            have q249 : x10_1 < (t242.length : Int) := of_decide_eq_true (by first | (with_reducible assumption) | assumption)
            obtain ⟨ad249, e249, hx249_0, hx249_1⟩ := at_T35 (Kd.R_reads' HO_8.out).2.2 x10_1 p249 q249
            cases e249
            replace p249 := eq_true p249
            replace q249 := eq_true q249
            go_wp2
            go_roundg k2
            case measure => have := HK1.out; have := HK2.out; omega
            case rel => exact ⟨(x9_1), (wrap64 (x10_1 + 1)), (by first | rfl | (simp; done) | (simp [*]; done)), H', ⟨by have := HK1.out; have := HK2.out; omega⟩, ⟨by (with_reducible repeat (first | apply Kd.R_alloc | apply Kd.R_drewN | apply Kd.R_drew)); exact HO_7.out⟩, ⟨by (with_reducible repeat (first | apply Kd.R_alloc | apply Kd.R_drewN | apply Kd.R_drew)); exact HO_8.out⟩, ⟨by (with_reducible repeat (first | apply Kd.R_alloc | apply Kd.R_drewN | apply Kd.R_drew)); exact HO_9.out⟩, ⟨by repeat (first | (with_reducible first | exact HB.out | apply below_alloc | apply pw_below_drewN | apply below_drew1) | exact HB.out)⟩⟩
           ·rw [if_neg c38] at H
            have c38b0 : (((rd_T35 t242 x10_1).f0).toList == ([115, 101, 116, 45, 99, 111, 111, 107, 105, 101] : List UInt8)) = false := beq_eq_false_iff_ne.mpr c38
            have c38b1 : (((rd_T35 t242 x10_1).f0).toList != ([115, 101, 116, 45, 99, 111, 111, 107, 105, 101] : List UInt8)) = true := bne_iff_ne.mpr c38
            by_cases c40 : ((rd_T35 t242 x10_1).f0).toList = ([115, 101, 116, 45, 99, 111, 111, 107, 105, 101, 50] : List UInt8)
            ·rw [if_pos c40] at H
             have c40b0 : (((rd_T35 t242 x10_1).f0).toList == ([115, 101, 116, 45, 99, 111, 111, 107, 105, 101, 50] : List UInt8)) = true := beq_iff_eq.mpr c40
             have c40b1 : (((rd_T35 t242 x10_1).f0).toList != ([115, 101, 116, 45, 99, 111, 111, 107, 105, 101, 50] : List UInt8)) = false := bne_eq_false_iff_eq.mpr c40
             clear c40
             have H' := Aside0.mk H
             clear H
             obtain ⟨Ao41, co41, eo41⟩ := Kd.R_slice HO_7.out
             subst eo41
             have p249 : 0 ≤ (x10_1 : Int) := of_decide_eq_true (by first | (with_reducible assumption) | assumption)
             have q249 : x10_1 < (t242.length : Int) := of_decide_eq_true (by first | (with_reducible assumption) | assumption)
             obtain ⟨ad249, e249, hx249_0, hx249_1⟩ := at_T35 (Kd.R_reads' HO_8.out).2.2 x10_1 p249 q249
             cases e249
             replace p249 := eq_true p249
             replace q249 := eq_true q249
             have p250 : 0 ≤ (x10_1 : Int) := of_decide_eq_true (by first | (with_reducible assumption) | assumption)
             have q250 : x10_1 < (t242.length : Int) := of_decide_eq_true (by first | (with_reducible assumption) | assumption)
             obtain ⟨ad250, e250, hx250_0, hx250_1⟩ := at_T35 (Kd.R_reads' HO_8.out).2.2 x10_1 p250 q250
             obtain rfl : ad249 = ad250 := (by injection e250)
             replace p250 := eq_true p250
             replace q250 := eq_true q250
             go_wp2
             go_roundg k2
             case measure => have := HK1.out; have := HK2.out; omega
             case rel => exact ⟨(x9_1), (wrap64 (x10_1 + 1)), (by first | rfl | (simp; done) | (simp [*]; done)), H', ⟨by have := HK1.out; have := HK2.out; omega⟩, ⟨by (with_reducible repeat (first | apply Kd.R_alloc | apply Kd.R_drewN | apply Kd.R_drew)); exact HO_7.out⟩, ⟨by (with_reducible repeat (first | apply Kd.R_alloc | apply Kd.R_drewN | apply Kd.R_drew)); exact HO_8.out⟩, ⟨by (with_reducible repeat (first | apply Kd.R_alloc | apply Kd.R_drewN | apply Kd.R_drew)); exact HO_9.out⟩, ⟨by repeat (first | (with_reducible first | exact HB.out | apply below_alloc | apply pw_below_drewN | apply below_drew1) | exact HB.out)⟩⟩
            ·rw [if_neg c40] at H
             have c40b0 : (((rd_T35 t242 x10_1).f0).toList == ([115, 101, 116, 45, 99, 111, 111, 107, 105, 101, 50] : List UInt8)) = false := beq_eq_false_iff_ne.mpr c40
             have c40b1 : (((rd_T35 t242 x10_1).f0).toList != ([115, 101, 116, 45, 99, 111, 111, 107, 105, 101, 50] : List UInt8)) = true := bne_iff_ne.mpr c40
             by_cases c42 : x9_1.length < 4398046511104
             ·rw [if_pos c42] at H
              have LMc42 := Aside0.mk c42
              clear c42
              obtain ⟨y252, hy252⟩ : ∃ y_ : List (S35), y_ = (x9_1 ++ [(⟨(rd_T35 t242 x10_1).f0, (rd_T35 t242 x10_1).f1⟩ : S35)]) := ⟨_, rfl⟩
              replace H : (lockkeeperref15_Seen.l0 k2 a0 y239 t242 y252 (wrap64 (x10_1 + 1))) = some r := by first | (rw [hy252]; with_reducible exact H) | (have H2_ := (Option.bind_some _ _).symm.trans H; rw [hy252]; with_reducible exact H2_) | (have H2_ := (Option.bind_some _ _).symm.trans H; with_reducible exact H2_) | with_reducible exact H | (rw [hy252]; exact H) | exact H
              have Ny252 := Aside0.mk hy252
              clear hy252
              have H' := Aside0.mk H
              clear H
              obtain ⟨Ao43, co43, eo43⟩ := Kd.R_slice HO_7.out
              subst eo43
              have p249 : 0 ≤ (x10_1 : Int) := of_decide_eq_true (by first | (with_reducible assumption) | assumption)
              have q249 : x10_1 < (t242.length : Int) := of_decide_eq_true (by first | (with_reducible assumption) | assumption)
              obtain ⟨ad249, e249, hx249_0, hx249_1⟩ := at_T35 (Kd.R_reads' HO_8.out).2.2 x10_1 p249 q249
              cases e249
              replace p249 := eq_true p249
              replace q249 := eq_true q249
              have p250 : 0 ≤ (x10_1 : Int) := of_decide_eq_true (by first | (with_reducible assumption) | assumption)
              have q250 : x10_1 < (t242.length : Int) := of_decide_eq_true (by first | (with_reducible assumption) | assumption)
              obtain ⟨ad250, e250, hx250_0, hx250_1⟩ := at_T35 (Kd.R_reads' HO_8.out).2.2 x10_1 p250 q250
              obtain rfl : ad249 = ad250 := (by injection e250)
              replace p250 := eq_true p250
              replace q250 := eq_true q250
              have p251 : 0 ≤ (x10_1 : Int) := of_decide_eq_true (by first | (with_reducible assumption) | assumption)
              have q251 : x10_1 < (t242.length : Int) := of_decide_eq_true (by first | (with_reducible assumption) | assumption)
              obtain ⟨ad251, e251, hx251_0, hx251_1⟩ := at_T35 (Kd.R_reads' HO_8.out).2.2 x10_1 p251 q251
              obtain rfl : ad249 = ad251 := (by injection e251)
              replace p251 := eq_true p251
              replace q251 := eq_true q251
              go_wp2_with (first | ((with_reducible refine gate_builtin (b := .append) (xs := #[.tmp 77, .tmp 82]) rfl ?_); at_builtin; refine Kd.R_append k35 (w0 := w) w.heap.size rfl (.tmp 77) (.tmp 82) 22 35 (.agg #[(.string ⟨#[]⟩), (.string ⟨#[]⟩)]) 32 rfl Tryd.underlying22 info35 rfl (by decide) (by omega) u9 x9_1 (⟨(rd_T35 t242 x10_1).f0, (rd_T35 t242 x10_1).f1⟩ : S35) [.string ((rd_T35 t242 x10_1).f0), .string ((rd_T35 t242 x10_1).f1)] (fun k_ => some k_ ≠ (.slice (some ad249) t242.length co15 : Value).ownBlock) (fun _ => False) rfl rfl ?aP (fun _ hk => hk.elim) ?aF ?aO ?aB ?aS ?aL ?_; (case aP => exact k35_mkM _ _ _ (⟨(rd_T35 t242 x10_1).f0, (rd_T35 t242 x10_1).f1⟩ : S35)); (case aB => exact (by repeat (first | (with_reducible first | exact HB.out | apply below_alloc | apply pw_below_drewN | apply below_drew1) | exact HB.out))); (case aF => exact (fun k_ hk => Kd.fresh' (Kd.R_lt (by (with_reducible repeat (first | apply Kd.R_alloc | apply Kd.R_drewN | apply Kd.R_drew)); exact HO_8.out)) k_ hk)); (case aO => exact (by (with_reducible repeat (first | apply Kd.R_alloc | apply Kd.R_drewN | apply Kd.R_drew)); exact HO_9.out)); (case aS => exact (below_size (by repeat (first | (with_reducible first | exact HB.out | apply below_alloc | apply pw_below_drewN | apply below_drew1) | exact HB.out)))); (case aL => have := LMc42.out; omega); intro v253 w44 ho hb hg hat; rw [← Ny252.out] at ho; have n0_ := Aside0.mk (Kd.R_over' (by (with_reducible repeat (first | apply Kd.R_alloc | apply Kd.R_drewN | apply Kd.R_drew)); exact HO_7.out) (Kd.R_typed (by (with_reducible repeat (first | apply Kd.R_alloc | apply Kd.R_drewN | apply Kd.R_drew)); exact HO_9.out)) (by decide) hg); have n1_ := Aside0.mk (Kd.R_after (ok := (fun _ => True)) (by (with_reducible repeat (first | apply Kd.R_alloc | apply Kd.R_drewN | apply Kd.R_drew)); exact Kd.R_mono HO_8.out (fun _ hk => ⟨trivial, hk⟩)) hg hat); have n2_ := Aside0.mk (hb); have n3_ := Aside0.mk (ho); clear HO_7; clear HO_8; clear HB; clear HO_9; have HO_7 := n0_; have HO_8 := n1_; have HB := n2_; have HO254 := n3_; clear n0_ n1_ n2_ n3_; clear ho hb hg hat))
              go_roundg k2
              case measure => have := HK1.out; have := HK2.out; omega
              case rel => exact ⟨(y252), (wrap64 (x10_1 + 1)), (by first | rfl | (simp; done) | (simp [*]; done)), H', ⟨by have := HK1.out; have := HK2.out; omega⟩, ⟨by (with_reducible repeat (first | apply Kd.R_alloc | apply Kd.R_drewN | apply Kd.R_drew)); exact HO_7.out⟩, ⟨by (with_reducible repeat (first | apply Kd.R_alloc | apply Kd.R_drewN | apply Kd.R_drew)); exact Kd.R_mono HO_8.out (fun _ hk => hk.2)⟩, ⟨by (with_reducible repeat (first | apply Kd.R_alloc | apply Kd.R_drewN | apply Kd.R_drew)); exact HO254.out⟩, ⟨by repeat (first | (with_reducible first | exact HB.out | apply below_alloc | apply pw_below_drewN | apply below_drew1) | exact HB.out)⟩⟩
             ·rw [if_neg c42] at H
              exact absurd H (by simp)
          ·rw [if_neg c37] at H
           exact absurd H (by simp)
         ·rw [if_neg c36] at H
          exact absurd H (by simp)
        ·replace c35 := Bool.eq_false_iff.mpr c35
         subst c35
         have H1 : (lockkeeperref15_Seen.l0 k2 a0 y239 t242 x9_1 (wrap64 (x10_1 + 1))) = some r := by rw [if_neg (show ¬ (false = true) by decide)] at H; exact H
         clear H
         have H := H1
         clear H1
         have H' := Aside0.mk H
         clear H
         obtain ⟨Ao45, co45, eo45⟩ := Kd.R_slice HO_7.out
         subst eo45
         go_wp2
         go_roundg k2
         case measure => have := HK1.out; have := HK2.out; omega
         case rel => exact ⟨(x9_1), (wrap64 (x10_1 + 1)), (by first | rfl | (simp; done) | (simp [*]; done)), H', ⟨by have := HK1.out; have := HK2.out; omega⟩, ⟨by (with_reducible repeat (first | apply Kd.R_alloc | apply Kd.R_drewN | apply Kd.R_drew)); exact HO_7.out⟩, ⟨by (with_reducible repeat (first | apply Kd.R_alloc | apply Kd.R_drewN | apply Kd.R_drew)); exact HO_8.out⟩, ⟨by (with_reducible repeat (first | apply Kd.R_alloc | apply Kd.R_drewN | apply Kd.R_drew)); exact HO_9.out⟩, ⟨by repeat (first | (with_reducible first | exact HB.out | apply below_alloc | apply pw_below_drewN | apply below_drew1) | exact HB.out)⟩⟩
    ·rw [if_neg c14] at H
     have c14b0 : decide (x10_1 < (t242.length : Int)) = false := decide_eq_false c14
     clear c14
     obtain rfl := Option.some.inj H
     obtain ⟨Ao46, co46, eo46⟩ := Kd.R_slice HO_8.out
     subst eo46
     go_wp2
     go_ret
     exact ⟨_, by first | rfl | (simp [errW_none, errW_some] <;> rfl) | (simp [*, errW_none, errW_some] <;> rfl), by (with_reducible repeat (first | apply Kd.R_alloc | apply Kd.R_drewN | apply Kd.R_drew)); exact Kd.R_mono HO_9.out (fun _ hk => trivial), by repeat (first | (with_reducible first | exact HB.out | apply below_alloc | apply pw_below_drewN | apply below_drew1) | exact HB.out)⟩
 ·rw [if_neg c5] at H
  exact absurd H (by simp)

end Go.Proofs.YtnbkfneolgeeeaaDoor.Pr
