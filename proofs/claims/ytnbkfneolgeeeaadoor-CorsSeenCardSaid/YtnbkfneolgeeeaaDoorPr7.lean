-- Made by a program of this session (wip/xp/xp.py), over the print's words.
import Derived.Test.YtnbkfneolgeeeaaDoorPr0
import Derived.Test.YtnbkfneolgeeeaaDoorPr1
import Derived.Test.YtnbkfneolgeeeaaDoorPr2
import Derived.Test.YtnbkfneolgeeeaaDoorPr3
import Derived.Test.YtnbkfneolgeeeaaDoorPr5
import Derived.Test.YtnbkfneolgeeeaaDoorPr6
namespace Go.Proofs.YtnbkfneolgeeeaaDoor.Pr
open Go.RowKit Go.Proofs.YtnbkfneolgeeeaaDoorW.PrintWords Go.Proofs.YtnbkfneolgeeeaaDoorW.PrintLast Go.Proofs.YtnbkfneolgeeeaaDoorW.PrintMore
attribute [local go_sem] max2_int min2_int max_two min_two max_three min_three max_four min_four   -- for this text's walks alone
set_option linter.unusedVariables false
set_option linter.unusedSimpArgs false

attribute [local go_sem high] eqA35
/-! ### lockkeeperlaw15_CorsSeen: function 4 -/
mutual
def lockkeeperlaw15_CorsSeen.l0 : Nat → List (S35) → Bool → Bool → List (S35) → Int → Option (Bool)
 | 0, _, _, _, _, _ => none
 | k + 1, x0, x1, x2, x7, x8 => if x8 < (x0.length : Int) then (if 0 ≤ x8 then ((octet_Token.f k ((rd_T35 x0 x8).f0)).bind fun t167 => (if t167 = true then ((octet_Fold.f ((rd_T35 x0 x8).f0) (⟨#[97, 99, 99, 101, 115, 115, 45, 99, 111, 110, 116, 114, 111, 108, 45, 101, 120, 112, 111, 115, 101, 45, 104, 101, 97, 100, 101, 114, 115]⟩ : ByteArray)).bind fun t169 => (lockkeeperlaw15_CorsSeen.j1 k x0 x1 x2 x7 x8 t169)) else (lockkeeperlaw15_CorsSeen.j1 k x0 x1 x2 x7 x8 true))) else (none)) else ((cors_Seen.f k x1 x7).bind fun t182 => ((header_Norm.f k x0).bind fun t185 => (lockkeeperlaw15_CorsSeen.l1 k x1 x2 x7 t182 t185 0 0)))
def lockkeeperlaw15_CorsSeen.j1 : Nat → List (S35) → Bool → Bool → List (S35) → Int → Bool → Option (Bool)
 | 0, _, _, _, _, _, _ => none
 | k + 1, x0, x1, x2, x7, x8, x38 => if x38 = true then ((lockkeeperlaw15_awake.f k).bind fun t170 => (some t170)) else (if 0 ≤ x8 then (if x8 < (x0.length : Int) then (if x7.length < 4398046511104 then ((some (x7 ++ [(⟨(rd_T35 x0 x8).f0, (rd_T35 x0 x8).f1⟩ : S35)] : List (S35))).bind fun y172 => (if x2 = true then (if y172.length < 4398046511104 then (lockkeeperlaw15_CorsSeen.l0 k x0 x1 x2 (y172 ++ [(⟨(⟨#[65, 99, 99, 101, 115, 115, 45, 67, 111, 110, 116, 114, 111, 108, 45, 69, 120, 112, 111, 115, 101, 45, 72, 101, 97, 100, 101, 114, 115]⟩ : ByteArray), (⟨#[42]⟩ : ByteArray)⟩ : S35)]) (wrap64 (x8 + 1))) else (none)) else (if y172.length < 4398046511104 then (lockkeeperlaw15_CorsSeen.l0 k x0 x1 x2 (y172 ++ [(⟨(⟨#[65, 99, 99, 101, 115, 115, 45, 67, 111, 110, 116, 114, 111, 108, 45, 69, 120, 112, 111, 115, 101, 45, 72, 101, 97, 100, 101, 114, 115]⟩ : ByteArray), (rd_T35 x0 x8).f0⟩ : S35)]) (wrap64 (x8 + 1))) else (none)))) else (none)) else (none)) else (none))
def lockkeeperlaw15_CorsSeen.l1 : Nat → Bool → Bool → List (S35) → List (S35) → List (S35) → Int → Int → Option (Bool)
 | 0, _, _, _, _, _, _, _ => none
 | k + 1, x1, x2, x7, x10, x11, x12, x13 => if x13 < (x11.length : Int) then (if 0 ≤ x13 then (if ((rd_T35 x11 x13).f0).toList = ([115, 101, 116, 45, 99, 111, 111, 107, 105, 101] : List UInt8) then (lockkeeperlaw15_CorsSeen.j3 k x1 x2 x7 x10 x11 x12 x13 true) else (lockkeeperlaw15_CorsSeen.j3 k x1 x2 x7 x10 x11 x12 x13 (((rd_T35 x11 x13).f0).toList == ([115, 101, 116, 45, 99, 111, 111, 107, 105, 101, 50] : List UInt8)))) else (none)) else (lockkeeperlaw15_CorsSeen.l3 k x7 x10 0)
def lockkeeperlaw15_CorsSeen.j3 : Nat → Bool → Bool → List (S35) → List (S35) → List (S35) → Int → Int → Bool → Option (Bool)
 | 0, _, _, _, _, _, _, _, _ => none
 | k + 1, x1, x2, x7, x10, x11, x12, x13, x82 => if x82 = true then (lockkeeperlaw15_CorsSeen.l1 k x1 x2 x7 x10 x11 x12 (wrap64 (x13 + 1))) else (if x2 = true then (lockkeeperlaw15_CorsSeen.j4 k x1 x2 x7 x10 x11 x12 x13 x1) else (lockkeeperlaw15_CorsSeen.j4 k x1 x2 x7 x10 x11 x12 x13 false))
def lockkeeperlaw15_CorsSeen.j4 : Nat → Bool → Bool → List (S35) → List (S35) → List (S35) → Int → Int → Bool → Option (Bool)
 | 0, _, _, _, _, _, _, _, _ => none
 | k + 1, x1, x2, x7, x10, x11, x12, x13, x86 => if x86 = true then (lockkeeperlaw15_CorsSeen.l1 k x1 x2 x7 x10 x11 x12 (wrap64 (x13 + 1))) else (lockkeeperlaw15_CorsSeen.l2 k x1 x2 x7 x10 x11 x12 x13)
def lockkeeperlaw15_CorsSeen.l2 : Nat → Bool → Bool → List (S35) → List (S35) → List (S35) → Int → Int → Option (Bool)
 | 0, _, _, _, _, _, _, _ => none
 | k + 1, x1, x2, x7, x10, x11, x12, x13 => if x12 < (x10.length : Int) then (if 0 ≤ x12 then (if ((rd_T35 x10 x12).f0).toList = ([97, 99, 99, 101, 115, 115, 45, 99, 111, 110, 116, 114, 111, 108, 45, 101, 120, 112, 111, 115, 101, 45, 104, 101, 97, 100, 101, 114, 115] : List UInt8) then (if 0 ≤ x13 then (if x13 < (x11.length : Int) then (if (!((((rd_T35 x10 x12).f0).toList) == (((rd_T35 x11 x13).f0).toList)) || (!((((rd_T35 x10 x12).f1).toList) == (((rd_T35 x11 x13).f1).toList)))) = true then (lockkeeperlaw15_CorsSeen.l2 k x1 x2 x7 x10 x11 (wrap64 (x12 + 1)) x13) else (if x12 = (x10.length : Int) then (some false) else (lockkeeperlaw15_CorsSeen.l1 k x1 x2 x7 x10 x11 (wrap64 (x12 + 1)) (wrap64 (x13 + 1))))) else (none)) else (none)) else (if x12 = (x10.length : Int) then (some false) else (if 0 ≤ x13 then (if x13 < (x11.length : Int) then (if (!((((rd_T35 x10 x12).f0).toList) == (((rd_T35 x11 x13).f0).toList)) || (!((((rd_T35 x10 x12).f1).toList) == (((rd_T35 x11 x13).f1).toList)))) = true then (some false) else (lockkeeperlaw15_CorsSeen.l1 k x1 x2 x7 x10 x11 (wrap64 (x12 + 1)) (wrap64 (x13 + 1)))) else (none)) else (none)))) else (none)) else (if x12 = (x10.length : Int) then (some false) else (if 0 ≤ x12 then (none) else (none)))
def lockkeeperlaw15_CorsSeen.l3 : Nat → List (S35) → List (S35) → Int → Option (Bool)
 | 0, _, _, _ => none
 | k + 1, x7, x10, x14 => if x14 < (x10.length : Int) then (if 0 ≤ x14 then (if ((rd_T35 x10 x14).f0).toList = ([115, 101, 116, 45, 99, 111, 111, 107, 105, 101] : List UInt8) then (some false) else (if ((rd_T35 x10 x14).f0).toList = ([115, 101, 116, 45, 99, 111, 111, 107, 105, 101, 50] : List UInt8) then (some false) else (lockkeeperlaw15_CorsSeen.l3 k x7 x10 (wrap64 (x14 + 1))))) else (none)) else (if (x10.length : Int) ≤ (x7.length : Int) then ((lockkeeperlaw15_awake.f k).bind fun t199 => (some t199)) else (some false))
end
def lockkeeperlaw15_CorsSeen.f (k : Nat) (l0 : List (S35)) (a1 : Bool) (a2 : Bool) : Option (Bool) := (lockkeeperlaw0_GreatHeaders.f k l0).bind fun t164 => (if t164 = true then ((lockkeeperlaw15_awake.f k).bind fun t165 => (some t165)) else (lockkeeperlaw15_CorsSeen.l0 k l0 a1 a2 ([] : List (S35)) 0))
theorem lockkeeperlaw15_CorsSeen.mono_l : ∀ k, (∀ y0 y1 y2 y3 y4, LeO (lockkeeperlaw15_CorsSeen.l0 k y0 y1 y2 y3 y4) (lockkeeperlaw15_CorsSeen.l0 (k + 1) y0 y1 y2 y3 y4)) ∧ (∀ y0 y1 y2 y3 y4 y5, LeO (lockkeeperlaw15_CorsSeen.j1 k y0 y1 y2 y3 y4 y5) (lockkeeperlaw15_CorsSeen.j1 (k + 1) y0 y1 y2 y3 y4 y5)) ∧ (∀ y0 y1 y2 y3 y4 y5 y6, LeO (lockkeeperlaw15_CorsSeen.l1 k y0 y1 y2 y3 y4 y5 y6) (lockkeeperlaw15_CorsSeen.l1 (k + 1) y0 y1 y2 y3 y4 y5 y6)) ∧ (∀ y0 y1 y2 y3 y4 y5 y6 y7, LeO (lockkeeperlaw15_CorsSeen.j3 k y0 y1 y2 y3 y4 y5 y6 y7) (lockkeeperlaw15_CorsSeen.j3 (k + 1) y0 y1 y2 y3 y4 y5 y6 y7)) ∧ (∀ y0 y1 y2 y3 y4 y5 y6 y7, LeO (lockkeeperlaw15_CorsSeen.j4 k y0 y1 y2 y3 y4 y5 y6 y7) (lockkeeperlaw15_CorsSeen.j4 (k + 1) y0 y1 y2 y3 y4 y5 y6 y7)) ∧ (∀ y0 y1 y2 y3 y4 y5 y6, LeO (lockkeeperlaw15_CorsSeen.l2 k y0 y1 y2 y3 y4 y5 y6) (lockkeeperlaw15_CorsSeen.l2 (k + 1) y0 y1 y2 y3 y4 y5 y6)) ∧ (∀ y0 y1 y2, LeO (lockkeeperlaw15_CorsSeen.l3 k y0 y1 y2) (lockkeeperlaw15_CorsSeen.l3 (k + 1) y0 y1 y2))
 | 0 => ⟨fun _ _ _ _ _ r h => by simp [lockkeeperlaw15_CorsSeen.l0] at h, fun _ _ _ _ _ _ r h => by simp [lockkeeperlaw15_CorsSeen.j1] at h, fun _ _ _ _ _ _ _ r h => by simp [lockkeeperlaw15_CorsSeen.l1] at h, fun _ _ _ _ _ _ _ _ r h => by simp [lockkeeperlaw15_CorsSeen.j3] at h, fun _ _ _ _ _ _ _ _ r h => by simp [lockkeeperlaw15_CorsSeen.j4] at h, fun _ _ _ _ _ _ _ r h => by simp [lockkeeperlaw15_CorsSeen.l2] at h, fun _ _ _ r h => by simp [lockkeeperlaw15_CorsSeen.l3] at h⟩
 | k + 1 => by
  obtain ⟨ih0, ih1, ih2, ih3, ih4, ih5, ih6⟩ := lockkeeperlaw15_CorsSeen.mono_l k
  refine ⟨?_, ?_, ?_, ?_, ?_, ?_, ?_⟩
  ·intro y0 y1 y2 y3 y4
   unfold lockkeeperlaw15_CorsSeen.l0
   repeat' first
   | (with_reducible exact ih0 _ _ _ _ _)
   | (with_reducible exact ih1 _ _ _ _ _ _)
   | (with_reducible exact ih2 _ _ _ _ _ _ _)
   | (with_reducible exact ih3 _ _ _ _ _ _ _ _)
   | (with_reducible exact ih4 _ _ _ _ _ _ _ _)
   | (with_reducible exact ih5 _ _ _ _ _ _ _)
   | (with_reducible exact ih6 _ _ _)
   | (with_reducible exact cors_Seen.mono _ _ _)
   | (with_reducible exact header_Norm.mono _ _)
   | (with_reducible exact lockkeeperlaw0_GreatHeaders.mono _ _)
   | (with_reducible exact lockkeeperlaw15_awake.mono _)
   | (with_reducible exact octet_Token.mono _ _)
   | (with_reducible exact LeO.refl _)
   | (with_reducible exact LeO.none _)
   | (with_reducible refine LeO.ite ?_ ?_)
   | (with_reducible refine LeO.bind ?_ (fun _ => ?_))
   | exact ih0 _ _ _ _ _
   | exact ih1 _ _ _ _ _ _
   | exact ih2 _ _ _ _ _ _ _
   | exact ih3 _ _ _ _ _ _ _ _
   | exact ih4 _ _ _ _ _ _ _ _
   | exact ih5 _ _ _ _ _ _ _
   | exact ih6 _ _ _
   | exact cors_Seen.mono _ _ _
   | exact header_Norm.mono _ _
   | exact lockkeeperlaw0_GreatHeaders.mono _ _
   | exact lockkeeperlaw15_awake.mono _
   | exact octet_Token.mono _ _
   | exact LeO.none _
   | refine LeO.ite ?_ ?_
   | refine LeO.bind ?_ (fun _ => ?_)
  ·intro y0 y1 y2 y3 y4 y5
   unfold lockkeeperlaw15_CorsSeen.j1
   repeat' first
   | (with_reducible exact ih0 _ _ _ _ _)
   | (with_reducible exact ih1 _ _ _ _ _ _)
   | (with_reducible exact ih2 _ _ _ _ _ _ _)
   | (with_reducible exact ih3 _ _ _ _ _ _ _ _)
   | (with_reducible exact ih4 _ _ _ _ _ _ _ _)
   | (with_reducible exact ih5 _ _ _ _ _ _ _)
   | (with_reducible exact ih6 _ _ _)
   | (with_reducible exact cors_Seen.mono _ _ _)
   | (with_reducible exact header_Norm.mono _ _)
   | (with_reducible exact lockkeeperlaw0_GreatHeaders.mono _ _)
   | (with_reducible exact lockkeeperlaw15_awake.mono _)
   | (with_reducible exact octet_Token.mono _ _)
   | (with_reducible exact LeO.refl _)
   | (with_reducible exact LeO.none _)
   | (with_reducible refine LeO.ite ?_ ?_)
   | (with_reducible refine LeO.bind ?_ (fun _ => ?_))
   | exact ih0 _ _ _ _ _
   | exact ih1 _ _ _ _ _ _
   | exact ih2 _ _ _ _ _ _ _
   | exact ih3 _ _ _ _ _ _ _ _
   | exact ih4 _ _ _ _ _ _ _ _
   | exact ih5 _ _ _ _ _ _ _
   | exact ih6 _ _ _
   | exact cors_Seen.mono _ _ _
   | exact header_Norm.mono _ _
   | exact lockkeeperlaw0_GreatHeaders.mono _ _
   | exact lockkeeperlaw15_awake.mono _
   | exact octet_Token.mono _ _
   | exact LeO.none _
   | refine LeO.ite ?_ ?_
   | refine LeO.bind ?_ (fun _ => ?_)
  ·intro y0 y1 y2 y3 y4 y5 y6
   unfold lockkeeperlaw15_CorsSeen.l1
   repeat' first
   | (with_reducible exact ih0 _ _ _ _ _)
   | (with_reducible exact ih1 _ _ _ _ _ _)
   | (with_reducible exact ih2 _ _ _ _ _ _ _)
   | (with_reducible exact ih3 _ _ _ _ _ _ _ _)
   | (with_reducible exact ih4 _ _ _ _ _ _ _ _)
   | (with_reducible exact ih5 _ _ _ _ _ _ _)
   | (with_reducible exact ih6 _ _ _)
   | (with_reducible exact cors_Seen.mono _ _ _)
   | (with_reducible exact header_Norm.mono _ _)
   | (with_reducible exact lockkeeperlaw0_GreatHeaders.mono _ _)
   | (with_reducible exact lockkeeperlaw15_awake.mono _)
   | (with_reducible exact octet_Token.mono _ _)
   | (with_reducible exact LeO.refl _)
   | (with_reducible exact LeO.none _)
   | (with_reducible refine LeO.ite ?_ ?_)
   | (with_reducible refine LeO.bind ?_ (fun _ => ?_))
   | exact ih0 _ _ _ _ _
   | exact ih1 _ _ _ _ _ _
   | exact ih2 _ _ _ _ _ _ _
   | exact ih3 _ _ _ _ _ _ _ _
   | exact ih4 _ _ _ _ _ _ _ _
   | exact ih5 _ _ _ _ _ _ _
   | exact ih6 _ _ _
   | exact cors_Seen.mono _ _ _
   | exact header_Norm.mono _ _
   | exact lockkeeperlaw0_GreatHeaders.mono _ _
   | exact lockkeeperlaw15_awake.mono _
   | exact octet_Token.mono _ _
   | exact LeO.none _
   | refine LeO.ite ?_ ?_
   | refine LeO.bind ?_ (fun _ => ?_)
  ·intro y0 y1 y2 y3 y4 y5 y6 y7
   unfold lockkeeperlaw15_CorsSeen.j3
   repeat' first
   | (with_reducible exact ih0 _ _ _ _ _)
   | (with_reducible exact ih1 _ _ _ _ _ _)
   | (with_reducible exact ih2 _ _ _ _ _ _ _)
   | (with_reducible exact ih3 _ _ _ _ _ _ _ _)
   | (with_reducible exact ih4 _ _ _ _ _ _ _ _)
   | (with_reducible exact ih5 _ _ _ _ _ _ _)
   | (with_reducible exact ih6 _ _ _)
   | (with_reducible exact cors_Seen.mono _ _ _)
   | (with_reducible exact header_Norm.mono _ _)
   | (with_reducible exact lockkeeperlaw0_GreatHeaders.mono _ _)
   | (with_reducible exact lockkeeperlaw15_awake.mono _)
   | (with_reducible exact octet_Token.mono _ _)
   | (with_reducible exact LeO.refl _)
   | (with_reducible exact LeO.none _)
   | (with_reducible refine LeO.ite ?_ ?_)
   | (with_reducible refine LeO.bind ?_ (fun _ => ?_))
   | exact ih0 _ _ _ _ _
   | exact ih1 _ _ _ _ _ _
   | exact ih2 _ _ _ _ _ _ _
   | exact ih3 _ _ _ _ _ _ _ _
   | exact ih4 _ _ _ _ _ _ _ _
   | exact ih5 _ _ _ _ _ _ _
   | exact ih6 _ _ _
   | exact cors_Seen.mono _ _ _
   | exact header_Norm.mono _ _
   | exact lockkeeperlaw0_GreatHeaders.mono _ _
   | exact lockkeeperlaw15_awake.mono _
   | exact octet_Token.mono _ _
   | exact LeO.none _
   | refine LeO.ite ?_ ?_
   | refine LeO.bind ?_ (fun _ => ?_)
  ·intro y0 y1 y2 y3 y4 y5 y6 y7
   unfold lockkeeperlaw15_CorsSeen.j4
   repeat' first
   | (with_reducible exact ih0 _ _ _ _ _)
   | (with_reducible exact ih1 _ _ _ _ _ _)
   | (with_reducible exact ih2 _ _ _ _ _ _ _)
   | (with_reducible exact ih3 _ _ _ _ _ _ _ _)
   | (with_reducible exact ih4 _ _ _ _ _ _ _ _)
   | (with_reducible exact ih5 _ _ _ _ _ _ _)
   | (with_reducible exact ih6 _ _ _)
   | (with_reducible exact cors_Seen.mono _ _ _)
   | (with_reducible exact header_Norm.mono _ _)
   | (with_reducible exact lockkeeperlaw0_GreatHeaders.mono _ _)
   | (with_reducible exact lockkeeperlaw15_awake.mono _)
   | (with_reducible exact octet_Token.mono _ _)
   | (with_reducible exact LeO.refl _)
   | (with_reducible exact LeO.none _)
   | (with_reducible refine LeO.ite ?_ ?_)
   | (with_reducible refine LeO.bind ?_ (fun _ => ?_))
   | exact ih0 _ _ _ _ _
   | exact ih1 _ _ _ _ _ _
   | exact ih2 _ _ _ _ _ _ _
   | exact ih3 _ _ _ _ _ _ _ _
   | exact ih4 _ _ _ _ _ _ _ _
   | exact ih5 _ _ _ _ _ _ _
   | exact ih6 _ _ _
   | exact cors_Seen.mono _ _ _
   | exact header_Norm.mono _ _
   | exact lockkeeperlaw0_GreatHeaders.mono _ _
   | exact lockkeeperlaw15_awake.mono _
   | exact octet_Token.mono _ _
   | exact LeO.none _
   | refine LeO.ite ?_ ?_
   | refine LeO.bind ?_ (fun _ => ?_)
  ·intro y0 y1 y2 y3 y4 y5 y6
   unfold lockkeeperlaw15_CorsSeen.l2
   repeat' first
   | (with_reducible exact ih0 _ _ _ _ _)
   | (with_reducible exact ih1 _ _ _ _ _ _)
   | (with_reducible exact ih2 _ _ _ _ _ _ _)
   | (with_reducible exact ih3 _ _ _ _ _ _ _ _)
   | (with_reducible exact ih4 _ _ _ _ _ _ _ _)
   | (with_reducible exact ih5 _ _ _ _ _ _ _)
   | (with_reducible exact ih6 _ _ _)
   | (with_reducible exact cors_Seen.mono _ _ _)
   | (with_reducible exact header_Norm.mono _ _)
   | (with_reducible exact lockkeeperlaw0_GreatHeaders.mono _ _)
   | (with_reducible exact lockkeeperlaw15_awake.mono _)
   | (with_reducible exact octet_Token.mono _ _)
   | (with_reducible exact LeO.refl _)
   | (with_reducible exact LeO.none _)
   | (with_reducible refine LeO.ite ?_ ?_)
   | (with_reducible refine LeO.bind ?_ (fun _ => ?_))
   | exact ih0 _ _ _ _ _
   | exact ih1 _ _ _ _ _ _
   | exact ih2 _ _ _ _ _ _ _
   | exact ih3 _ _ _ _ _ _ _ _
   | exact ih4 _ _ _ _ _ _ _ _
   | exact ih5 _ _ _ _ _ _ _
   | exact ih6 _ _ _
   | exact cors_Seen.mono _ _ _
   | exact header_Norm.mono _ _
   | exact lockkeeperlaw0_GreatHeaders.mono _ _
   | exact lockkeeperlaw15_awake.mono _
   | exact octet_Token.mono _ _
   | exact LeO.none _
   | refine LeO.ite ?_ ?_
   | refine LeO.bind ?_ (fun _ => ?_)
  ·intro y0 y1 y2
   unfold lockkeeperlaw15_CorsSeen.l3
   repeat' first
   | (with_reducible exact ih0 _ _ _ _ _)
   | (with_reducible exact ih1 _ _ _ _ _ _)
   | (with_reducible exact ih2 _ _ _ _ _ _ _)
   | (with_reducible exact ih3 _ _ _ _ _ _ _ _)
   | (with_reducible exact ih4 _ _ _ _ _ _ _ _)
   | (with_reducible exact ih5 _ _ _ _ _ _ _)
   | (with_reducible exact ih6 _ _ _)
   | (with_reducible exact cors_Seen.mono _ _ _)
   | (with_reducible exact header_Norm.mono _ _)
   | (with_reducible exact lockkeeperlaw0_GreatHeaders.mono _ _)
   | (with_reducible exact lockkeeperlaw15_awake.mono _)
   | (with_reducible exact octet_Token.mono _ _)
   | (with_reducible exact LeO.refl _)
   | (with_reducible exact LeO.none _)
   | (with_reducible refine LeO.ite ?_ ?_)
   | (with_reducible refine LeO.bind ?_ (fun _ => ?_))
   | exact ih0 _ _ _ _ _
   | exact ih1 _ _ _ _ _ _
   | exact ih2 _ _ _ _ _ _ _
   | exact ih3 _ _ _ _ _ _ _ _
   | exact ih4 _ _ _ _ _ _ _ _
   | exact ih5 _ _ _ _ _ _ _
   | exact ih6 _ _ _
   | exact cors_Seen.mono _ _ _
   | exact header_Norm.mono _ _
   | exact lockkeeperlaw0_GreatHeaders.mono _ _
   | exact lockkeeperlaw15_awake.mono _
   | exact octet_Token.mono _ _
   | exact LeO.none _
   | refine LeO.ite ?_ ?_
   | refine LeO.bind ?_ (fun _ => ?_)
theorem lockkeeperlaw15_CorsSeen.mono : ∀ a0 a1 a2 k, LeO (lockkeeperlaw15_CorsSeen.f k a0 a1 a2) (lockkeeperlaw15_CorsSeen.f (k + 1) a0 a1 a2) := by
 intro a0 a1 a2 k
 obtain ⟨ih0, ih1, ih2, ih3, ih4, ih5, ih6⟩ := lockkeeperlaw15_CorsSeen.mono_l k
 unfold lockkeeperlaw15_CorsSeen.f
 repeat' first
   | (with_reducible exact ih0 _ _ _ _ _)
   | (with_reducible exact ih1 _ _ _ _ _ _)
   | (with_reducible exact ih2 _ _ _ _ _ _ _)
   | (with_reducible exact ih3 _ _ _ _ _ _ _ _)
   | (with_reducible exact ih4 _ _ _ _ _ _ _ _)
   | (with_reducible exact ih5 _ _ _ _ _ _ _)
   | (with_reducible exact ih6 _ _ _)
   | (with_reducible exact cors_Seen.mono _ _ _)
   | (with_reducible exact header_Norm.mono _ _)
   | (with_reducible exact lockkeeperlaw0_GreatHeaders.mono _ _)
   | (with_reducible exact lockkeeperlaw15_awake.mono _)
   | (with_reducible exact octet_Token.mono _ _)
   | (with_reducible exact LeO.refl _)
   | (with_reducible exact LeO.none _)
   | (with_reducible refine LeO.ite ?_ ?_)
   | (with_reducible refine LeO.bind ?_ (fun _ => ?_))
   | exact ih0 _ _ _ _ _
   | exact ih1 _ _ _ _ _ _
   | exact ih2 _ _ _ _ _ _ _
   | exact ih3 _ _ _ _ _ _ _ _
   | exact ih4 _ _ _ _ _ _ _ _
   | exact ih5 _ _ _ _ _ _ _
   | exact ih6 _ _ _
   | exact cors_Seen.mono _ _ _
   | exact header_Norm.mono _ _
   | exact lockkeeperlaw0_GreatHeaders.mono _ _
   | exact lockkeeperlaw15_awake.mono _
   | exact octet_Token.mono _ _
   | exact LeO.none _
   | refine LeO.ite ?_ ?_
   | refine LeO.bind ?_ (fun _ => ?_)
set_option maxHeartbeats 8000000 in
set_option maxRecDepth 100000 in
theorem lockkeeperlaw15_CorsSeen.calls (k : Nat) (A0 : Option Addr) (c0 : Nat) (l0 : List (S35)) (a1 : Bool) (a2 : Bool) (r : Bool) (w : World) (hr0 : Kd.C k35 w A0 l0.length l0) (hc0 : l0.length ≤ c0) (hr_ : r = true) (h : lockkeeperlaw15_CorsSeen.f k l0 a1 a2 = some r) :
  Calls Tryd.prog 4 #[.slice A0 l0.length c0, .bool a1, .bool a2] w fun e w' => e = .returned (.bool r) ∧ Below w.heap.size w w' := by
 have hu35 := Tryd.underlying35
 have HR0 := Aside0.mk hr0
 have HC0 := Aside0.mk hc0
 clear hr0 hc0
 have HB := Aside0.mk (Below.refl w.heap.size w)
 have H : ((lockkeeperlaw0_GreatHeaders.f k l0).bind fun t164 => (if t164 = true then ((lockkeeperlaw15_awake.f k).bind fun t165 => (some t165)) else (lockkeeperlaw15_CorsSeen.l0 k l0 a1 a2 ([] : List (S35)) 0))) = some r := h
 clear h
 replace H := Option.bind_eq_some_iff.mp H
 obtain ⟨t164, A40, H⟩ := H
 replace H : (if t164 = true then ((lockkeeperlaw15_awake.f k).bind fun t165 => (some t165)) else (lockkeeperlaw15_CorsSeen.l0 k l0 a1 a2 ([] : List (S35)) 0)) = some r := H
 have A4 := Aside0.mk A40
 clear A40
 by_cases c5 : t164 = true
 ·subst c5
  have H1 : ((lockkeeperlaw15_awake.f k).bind fun t165 => (some t165)) = some r := by rw [if_pos rfl] at H; exact H
  clear H
  have H := H1
  clear H1
  replace H := Option.bind_eq_some_iff.mp H
  obtain ⟨t165, A60, H⟩ := H
  replace H : (some t165) = some r := H
  have A6 := Aside0.mk A60
  clear A60
  clear hr_
  obtain rfl := Option.some.inj H
  go_enter Tryd.func4, Tryd.ntmps4
  go_wp2_with (first | (go_at_call 7; (with_reducible refine (lockkeeperlaw0_GreatHeaders.calls k _ _ l0 true _ ?side1 ?side2 A4.out).mono ?_); (case side1 => repeat (first | exact HR0.out | (with_reducible refine Kd.C_alloc ?_ _) | (with_reducible refine Kd.C_drewN ?_ _) | (with_reducible refine Kd.C_drew ?_))); (case side2 => exact HC0.out); rintro e w' ⟨rfl, ⟨nd, rfl⟩⟩; (try first | exact ⟨rfl, _, World.drewN_drewN _ _ _⟩ | exact ⟨rfl, _, Eq.trans (World.drewN_drewN _ _ _) (congrArg (World.drewN _) (Nat.add_assoc _ _ _))⟩)) | (go_at_call 8; (with_reducible refine (lockkeeperlaw15_awake.calls k  t165 _ A6.out).mono ?_); rintro e w7 ⟨rfl, hb⟩; have n0_ := Aside0.mk (below_step (by repeat (first | (with_reducible first | exact HB.out | apply below_alloc | apply pw_below_drewN | apply below_drew1) | exact HB.out)) hb); clear HB; have HB := n0_; clear n0_; (try clear hb); (try clear hb2); (try clear hk); (try clear hi)))
  repeat (go_quiet (first | (go_at_call 7; (with_reducible refine (lockkeeperlaw0_GreatHeaders.calls k _ _ l0 true _ ?side1 ?side2 A4.out).mono ?_); (case side1 => repeat (first | exact HR0.out | (with_reducible refine Kd.C_alloc ?_ _) | (with_reducible refine Kd.C_drewN ?_ _) | (with_reducible refine Kd.C_drew ?_))); (case side2 => exact HC0.out); rintro e w' ⟨rfl, ⟨nd, rfl⟩⟩; (try first | exact ⟨rfl, _, World.drewN_drewN _ _ _⟩ | exact ⟨rfl, _, Eq.trans (World.drewN_drewN _ _ _) (congrArg (World.drewN _) (Nat.add_assoc _ _ _))⟩)) | (go_at_call 8; (with_reducible refine (lockkeeperlaw15_awake.calls k  t165 _ A6.out).mono ?_); rintro e w7 ⟨rfl, hb⟩; have n0_ := Aside0.mk (below_step (by repeat (first | (with_reducible first | exact HB.out | apply below_alloc | apply pw_below_drewN | apply below_drew1) | exact HB.out)) hb); clear HB; have HB := n0_; clear n0_; (try clear hb); (try clear hb2); (try clear hk); (try clear hi))); try go_wp2_with (first | (go_at_call 7; (with_reducible refine (lockkeeperlaw0_GreatHeaders.calls k _ _ l0 true _ ?side1 ?side2 A4.out).mono ?_); (case side1 => repeat (first | exact HR0.out | (with_reducible refine Kd.C_alloc ?_ _) | (with_reducible refine Kd.C_drewN ?_ _) | (with_reducible refine Kd.C_drew ?_))); (case side2 => exact HC0.out); rintro e w' ⟨rfl, ⟨nd, rfl⟩⟩; (try first | exact ⟨rfl, _, World.drewN_drewN _ _ _⟩ | exact ⟨rfl, _, Eq.trans (World.drewN_drewN _ _ _) (congrArg (World.drewN _) (Nat.add_assoc _ _ _))⟩)) | (go_at_call 8; (with_reducible refine (lockkeeperlaw15_awake.calls k  t165 _ A6.out).mono ?_); rintro e w7 ⟨rfl, hb⟩; have n0_ := Aside0.mk (below_step (by repeat (first | (with_reducible first | exact HB.out | apply below_alloc | apply pw_below_drewN | apply below_drew1) | exact HB.out)) hb); clear HB; have HB := n0_; clear n0_; (try clear hb); (try clear hb2); (try clear hk); (try clear hi))))
  go_ret
  exact ⟨by first | rfl | (simp [errW_none, errW_some] <;> rfl) | (simp [*, errW_none, errW_some] <;> rfl), by repeat (first | (with_reducible first | exact HB.out | apply below_alloc | apply pw_below_drewN | apply below_drew1) | exact HB.out)⟩
 ·replace c5 := Bool.eq_false_iff.mpr c5
  subst c5
  have H1 : (lockkeeperlaw15_CorsSeen.l0 k l0 a1 a2 ([] : List (S35)) 0) = some r := by rw [if_neg (show ¬ (false = true) by decide)] at H; exact H
  clear H
  have H := H1
  clear H1
  have H' := Aside0.mk H
  clear H
  go_enter Tryd.func4, Tryd.ntmps4
  go_wp2_with (first | (go_at_call 7; (with_reducible refine (lockkeeperlaw0_GreatHeaders.calls k _ _ l0 false _ ?side1 ?side2 A4.out).mono ?_); (case side1 => repeat (first | exact HR0.out | (with_reducible refine Kd.C_alloc ?_ _) | (with_reducible refine Kd.C_drewN ?_ _) | (with_reducible refine Kd.C_drew ?_))); (case side2 => exact HC0.out); rintro e w' ⟨rfl, ⟨nd, rfl⟩⟩; (try first | exact ⟨rfl, _, World.drewN_drewN _ _ _⟩ | exact ⟨rfl, _, Eq.trans (World.drewN_drewN _ _ _) (congrArg (World.drewN _) (Nat.add_assoc _ _ _))⟩)))
  repeat (go_quiet (first | (go_at_call 7; (with_reducible refine (lockkeeperlaw0_GreatHeaders.calls k _ _ l0 false _ ?side1 ?side2 A4.out).mono ?_); (case side1 => repeat (first | exact HR0.out | (with_reducible refine Kd.C_alloc ?_ _) | (with_reducible refine Kd.C_drewN ?_ _) | (with_reducible refine Kd.C_drew ?_))); (case side2 => exact HC0.out); rintro e w' ⟨rfl, ⟨nd, rfl⟩⟩; (try first | exact ⟨rfl, _, World.drewN_drewN _ _ _⟩ | exact ⟨rfl, _, Eq.trans (World.drewN_drewN _ _ _) (congrArg (World.drewN _) (Nat.add_assoc _ _ _))⟩))); try go_wp2_with (first | (go_at_call 7; (with_reducible refine (lockkeeperlaw0_GreatHeaders.calls k _ _ l0 false _ ?side1 ?side2 A4.out).mono ?_); (case side1 => repeat (first | exact HR0.out | (with_reducible refine Kd.C_alloc ?_ _) | (with_reducible refine Kd.C_drewN ?_ _) | (with_reducible refine Kd.C_drew ?_))); (case side2 => exact HC0.out); rintro e w' ⟨rfl, ⟨nd, rfl⟩⟩; (try first | exact ⟨rfl, _, World.drewN_drewN _ _ _⟩ | exact ⟨rfl, _, Eq.trans (World.drewN_drewN _ _ _) (congrArg (World.drewN _) (Nat.add_assoc _ _ _))⟩))))
  go_loopg [7, 8] k (fun kq v7 v8 w' => ∃ (x7_1 : List (S35)) (x8_1 : Int), v8 = .int .i64 x8_1 ∧ Aside0 (lockkeeperlaw15_CorsSeen.l0 kq l0 a1 a2 x7_1 x8_1 = some r) ∧ Aside0 (kq ≤ k) ∧ Aside0 (Kd.R k35 35 w' w.heap.size (fun _ => True) v7 x7_1) ∧ Aside0 (Below w.heap.size w w'))
  case atStart => exact ⟨(([] : List (S35))), (0), (by first | rfl | (simp; done) | (simp [*]; done)), H', ⟨Nat.le_refl _⟩, ⟨by first | exact Kd.R_nil _ _ _ _ _ | exact Kd.N_nil _ _ _ _ _ | exact Kd.V_nil _ _ _ _ _ | exact Kd.Q_nil _ _ _ _ _ | exact Kd.S_nil _ _ _ _ _⟩, ⟨by repeat (first | (with_reducible first | exact HB.out | apply below_alloc | apply pw_below_drewN | apply below_drew1) | exact HB.out)⟩⟩
  case round =>
   clear H'
   try clear p2
   try clear c4
   try clear c5
   obtain ⟨x7_1, x8_1, rfl, HA, HK1, HO_7, HB⟩ := hrel
   cases gk with
   | zero => exact absurd HA.out (by simp [lockkeeperlaw15_CorsSeen.l0])
   | succ k1 =>
    have H := HA.out
    clear HA
    simp only [lockkeeperlaw15_CorsSeen.l0] at H
    by_cases c8 : x8_1 < (l0.length : Int)
    ·rw [if_pos c8] at H
     have c8b0 : decide (x8_1 < (l0.length : Int)) = true := decide_eq_true c8
     clear c8
     have HC9 := Aside0.mk H
     clear H
     go_upto_region 7 with (fail)
     repeat (go_quiet (fail); go_upto_region 7 with (fail))
     go_cut [38] (fun v38 wc => ∃ (kq : Nat) (x38_8 : Bool), v38 = .bool x38_8 ∧ Aside0 (lockkeeperlaw15_CorsSeen.j1 kq l0 a1 a2 x7_1 x8_1 x38_8 = some r) ∧ Aside0 (kq ≤ k1) ∧ Aside0 (Kd.R k35 35 wc w.heap.size (fun _ => True) u7 x7_1) ∧ Aside0 (Below w.heap.size w wc))
     case first =>
      have H := HC9.out
      clear HC9
      by_cases c10 : 0 ≤ x8_1
      ·rw [if_pos c10] at H
       have c10b0 : decide (0 ≤ x8_1) = true := decide_eq_true c10
       clear c10
       (first | rw [c10b0] | (simp only [i64_w, i32_w]; rw [c10b0]) | skip)
       replace H := Option.bind_eq_some_iff.mp H
       obtain ⟨t167, A110, H⟩ := H
       replace H : (if t167 = true then ((octet_Fold.f ((rd_T35 l0 x8_1).f0) (⟨#[97, 99, 99, 101, 115, 115, 45, 99, 111, 110, 116, 114, 111, 108, 45, 101, 120, 112, 111, 115, 101, 45, 104, 101, 97, 100, 101, 114, 115]⟩ : ByteArray)).bind fun t169 => (lockkeeperlaw15_CorsSeen.j1 k1 l0 a1 a2 x7_1 x8_1 t169)) else (lockkeeperlaw15_CorsSeen.j1 k1 l0 a1 a2 x7_1 x8_1 true)) = some r := H
       have A11 := Aside0.mk A110
       clear A110
       by_cases c12 : t167 = true
       ·subst c12
        have H1 : ((octet_Fold.f ((rd_T35 l0 x8_1).f0) (⟨#[97, 99, 99, 101, 115, 115, 45, 99, 111, 110, 116, 114, 111, 108, 45, 101, 120, 112, 111, 115, 101, 45, 104, 101, 97, 100, 101, 114, 115]⟩ : ByteArray)).bind fun t169 => (lockkeeperlaw15_CorsSeen.j1 k1 l0 a1 a2 x7_1 x8_1 t169)) = some r := by rw [if_pos rfl] at H; exact H
        clear H
        have H := H1
        clear H1
        replace H := Option.bind_eq_some_iff.mp H
        obtain ⟨t169, A130, H⟩ := H
        replace H : (lockkeeperlaw15_CorsSeen.j1 k1 l0 a1 a2 x7_1 x8_1 t169) = some r := H
        have A13 := Aside0.mk A130
        clear A130
        have H' := Aside0.mk H
        clear H
        have p166 : 0 ≤ (x8_1 : Int) := of_decide_eq_true (by first | (with_reducible assumption) | assumption)
        have q166 : x8_1 < (l0.length : Int) := of_decide_eq_true (by first | (with_reducible assumption) | assumption)
        obtain ⟨ad166, e166, hx166_0, hx166_1⟩ := at_T35 HR0.out x8_1 p166 q166
        cases e166
        replace hx166_0 := (HB.out.cell (World.block_lt_of_cell? w _ hx166_0)).trans hx166_0
        replace hx166_1 := (HB.out.cell (World.block_lt_of_cell? w _ hx166_1)).trans hx166_1
        replace p166 := eq_true p166
        replace q166 := eq_true q166
        go_wp2_with (first | (go_at_call 14; (with_reducible refine (octet_Token.calls k1 ((rd_T35 l0 x8_1).f0) true _ A11.out).mono ?_); rintro e w' ⟨rfl, ⟨nd, rfl⟩⟩; (try first | exact ⟨rfl, _, World.drewN_drewN _ _ _⟩ | exact ⟨rfl, _, Eq.trans (World.drewN_drewN _ _ _) (congrArg (World.drewN _) (Nat.add_assoc _ _ _))⟩); have p168 : 0 ≤ (x8_1 : Int) := of_decide_eq_true (by first | (with_reducible assumption) | assumption); have q168 : x8_1 < (l0.length : Int) := of_decide_eq_true (by first | (with_reducible assumption) | assumption); obtain ⟨ad168, e168, hx168_0, hx168_1⟩ := at_T35 HR0.out x8_1 p168 q168; obtain rfl : ad166 = ad168 := (by injection e168); replace hx168_0 := (HB.out.cell (World.block_lt_of_cell? w _ hx168_0)).trans hx168_0; replace hx168_1 := (HB.out.cell (World.block_lt_of_cell? w _ hx168_1)).trans hx168_1; replace p168 := eq_true p168; replace q168 := eq_true q168) | (go_at_call 15; (with_reducible refine (octet_Fold.calls ((rd_T35 l0 x8_1).f0) (⟨#[97, 99, 99, 101, 115, 115, 45, 99, 111, 110, 116, 114, 111, 108, 45, 101, 120, 112, 111, 115, 101, 45, 104, 101, 97, 100, 101, 114, 115]⟩ : ByteArray) t169 _ A13.out).mono ?_); rintro e w14 ⟨rfl, hb⟩; have n0_ := Aside0.mk (Kd.R_below (by (with_reducible repeat (first | apply Kd.R_alloc | apply Kd.R_drewN | apply Kd.R_drew)); exact HO_7.out) hb); have n1_ := Aside0.mk (below_step (by repeat (first | (with_reducible first | exact HB.out | apply below_alloc | apply pw_below_drewN | apply below_drew1) | exact HB.out)) hb); clear HO_7; clear HB; have HO_7 := n0_; have HB := n1_; clear n0_ n1_; (try clear hb); (try clear hb2); (try clear hk); (try clear hi)))
        repeat (go_quiet (first | (go_at_call 14; (with_reducible refine (octet_Token.calls k1 ((rd_T35 l0 x8_1).f0) true _ A11.out).mono ?_); rintro e w' ⟨rfl, ⟨nd, rfl⟩⟩; (try first | exact ⟨rfl, _, World.drewN_drewN _ _ _⟩ | exact ⟨rfl, _, Eq.trans (World.drewN_drewN _ _ _) (congrArg (World.drewN _) (Nat.add_assoc _ _ _))⟩); have p168 : 0 ≤ (x8_1 : Int) := of_decide_eq_true (by first | (with_reducible assumption) | assumption); have q168 : x8_1 < (l0.length : Int) := of_decide_eq_true (by first | (with_reducible assumption) | assumption); obtain ⟨ad168, e168, hx168_0, hx168_1⟩ := at_T35 HR0.out x8_1 p168 q168; obtain rfl : ad166 = ad168 := (by injection e168); replace hx168_0 := (HB.out.cell (World.block_lt_of_cell? w _ hx168_0)).trans hx168_0; replace hx168_1 := (HB.out.cell (World.block_lt_of_cell? w _ hx168_1)).trans hx168_1; replace p168 := eq_true p168; replace q168 := eq_true q168) | (go_at_call 15; (with_reducible refine (octet_Fold.calls ((rd_T35 l0 x8_1).f0) (⟨#[97, 99, 99, 101, 115, 115, 45, 99, 111, 110, 116, 114, 111, 108, 45, 101, 120, 112, 111, 115, 101, 45, 104, 101, 97, 100, 101, 114, 115]⟩ : ByteArray) t169 _ A13.out).mono ?_); rintro e w14 ⟨rfl, hb⟩; have n0_ := Aside0.mk (Kd.R_below (by (with_reducible repeat (first | apply Kd.R_alloc | apply Kd.R_drewN | apply Kd.R_drew)); exact HO_7.out) hb); have n1_ := Aside0.mk (below_step (by repeat (first | (with_reducible first | exact HB.out | apply below_alloc | apply pw_below_drewN | apply below_drew1) | exact HB.out)) hb); clear HO_7; clear HB; have HO_7 := n0_; have HB := n1_; clear n0_ n1_; (try clear hb); (try clear hb2); (try clear hk); (try clear hi))); try go_wp2_with (first | (go_at_call 14; (with_reducible refine (octet_Token.calls k1 ((rd_T35 l0 x8_1).f0) true _ A11.out).mono ?_); rintro e w' ⟨rfl, ⟨nd, rfl⟩⟩; (try first | exact ⟨rfl, _, World.drewN_drewN _ _ _⟩ | exact ⟨rfl, _, Eq.trans (World.drewN_drewN _ _ _) (congrArg (World.drewN _) (Nat.add_assoc _ _ _))⟩); have p168 : 0 ≤ (x8_1 : Int) := of_decide_eq_true (by first | (with_reducible assumption) | assumption); have q168 : x8_1 < (l0.length : Int) := of_decide_eq_true (by first | (with_reducible assumption) | assumption); obtain ⟨ad168, e168, hx168_0, hx168_1⟩ := at_T35 HR0.out x8_1 p168 q168; obtain rfl : ad166 = ad168 := (by injection e168); replace hx168_0 := (HB.out.cell (World.block_lt_of_cell? w _ hx168_0)).trans hx168_0; replace hx168_1 := (HB.out.cell (World.block_lt_of_cell? w _ hx168_1)).trans hx168_1; replace p168 := eq_true p168; replace q168 := eq_true q168) | (go_at_call 15; (with_reducible refine (octet_Fold.calls ((rd_T35 l0 x8_1).f0) (⟨#[97, 99, 99, 101, 115, 115, 45, 99, 111, 110, 116, 114, 111, 108, 45, 101, 120, 112, 111, 115, 101, 45, 104, 101, 97, 100, 101, 114, 115]⟩ : ByteArray) t169 _ A13.out).mono ?_); rintro e w14 ⟨rfl, hb⟩; have n0_ := Aside0.mk (Kd.R_below (by (with_reducible repeat (first | apply Kd.R_alloc | apply Kd.R_drewN | apply Kd.R_drew)); exact HO_7.out) hb); have n1_ := Aside0.mk (below_step (by repeat (first | (with_reducible first | exact HB.out | apply below_alloc | apply pw_below_drewN | apply below_drew1) | exact HB.out)) hb); clear HO_7; clear HB; have HO_7 := n0_; have HB := n1_; clear n0_ n1_; (try clear hb); (try clear hb2); (try clear hk); (try clear hi))))
        go_meet
        case rel => exact ⟨_, (t169), (by first | rfl | (simp; done) | (simp [*]; done)), H', ⟨by have := HK1.out; first | omega | exact Nat.le_refl _⟩, ⟨by (with_reducible repeat (first | apply Kd.R_alloc | apply Kd.R_drewN | apply Kd.R_drew)); exact HO_7.out⟩, ⟨by repeat (first | (with_reducible first | exact HB.out | apply below_alloc | apply pw_below_drewN | apply below_drew1) | exact HB.out)⟩⟩
       ·replace c12 := Bool.eq_false_iff.mpr c12
        subst c12
        have H1 : (lockkeeperlaw15_CorsSeen.j1 k1 l0 a1 a2 x7_1 x8_1 true) = some r := by rw [if_neg (show ¬ (false = true) by decide)] at H; exact H
        clear H
        have H := H1
        clear H1
        have H' := Aside0.mk H
        clear H
        have p166 : 0 ≤ (x8_1 : Int) := of_decide_eq_true (by first | (with_reducible assumption) | assumption)
        have q166 : x8_1 < (l0.length : Int) := of_decide_eq_true (by first | (with_reducible assumption) | assumption)
        obtain ⟨ad166, e166, hx166_0, hx166_1⟩ := at_T35 HR0.out x8_1 p166 q166
        cases e166
        replace hx166_0 := (HB.out.cell (World.block_lt_of_cell? w _ hx166_0)).trans hx166_0
        replace hx166_1 := (HB.out.cell (World.block_lt_of_cell? w _ hx166_1)).trans hx166_1
        replace p166 := eq_true p166
        replace q166 := eq_true q166
        go_wp2_with (first | (go_at_call 14; (with_reducible refine (octet_Token.calls k1 ((rd_T35 l0 x8_1).f0) false _ A11.out).mono ?_); rintro e w' ⟨rfl, ⟨nd, rfl⟩⟩; (try first | exact ⟨rfl, _, World.drewN_drewN _ _ _⟩ | exact ⟨rfl, _, Eq.trans (World.drewN_drewN _ _ _) (congrArg (World.drewN _) (Nat.add_assoc _ _ _))⟩)))
        repeat (go_quiet (first | (go_at_call 14; (with_reducible refine (octet_Token.calls k1 ((rd_T35 l0 x8_1).f0) false _ A11.out).mono ?_); rintro e w' ⟨rfl, ⟨nd, rfl⟩⟩; (try first | exact ⟨rfl, _, World.drewN_drewN _ _ _⟩ | exact ⟨rfl, _, Eq.trans (World.drewN_drewN _ _ _) (congrArg (World.drewN _) (Nat.add_assoc _ _ _))⟩))); try go_wp2_with (first | (go_at_call 14; (with_reducible refine (octet_Token.calls k1 ((rd_T35 l0 x8_1).f0) false _ A11.out).mono ?_); rintro e w' ⟨rfl, ⟨nd, rfl⟩⟩; (try first | exact ⟨rfl, _, World.drewN_drewN _ _ _⟩ | exact ⟨rfl, _, Eq.trans (World.drewN_drewN _ _ _) (congrArg (World.drewN _) (Nat.add_assoc _ _ _))⟩))))
        go_meet
        case rel => exact ⟨_, (true), (by first | rfl | (simp; done) | (simp [*]; done)), H', ⟨by have := HK1.out; first | omega | exact Nat.le_refl _⟩, ⟨by (with_reducible repeat (first | apply Kd.R_alloc | apply Kd.R_drewN | apply Kd.R_drew)); exact HO_7.out⟩, ⟨by repeat (first | (with_reducible first | exact HB.out | apply below_alloc | apply pw_below_drewN | apply below_drew1) | exact HB.out)⟩⟩
      ·rw [if_neg c10] at H
       exact absurd H (by simp)
     case rest =>
      clear HC9
      try clear c1
      try clear p1
      try clear q1
      try clear hx1
      try clear p2
      try clear c4
      try clear c5
      try clear c8
      try clear c8b0
      try clear c10
      try clear c10b0
      try clear c12
      try clear hx166_0
      try clear hx166_1
      try clear hx168_0
      try clear hx168_1
      try clear p166
      try clear p168
      try clear p2
      try clear q166
      try clear q168
      obtain ⟨kq, x38_8, rfl, HA, HJ8, HO_7, HB⟩ := hcut
      cases kq with
      | zero => exact absurd HA.out (by simp [lockkeeperlaw15_CorsSeen.j1])
      | succ kj8 =>
       have H := HA.out
       clear HA
       simp only [lockkeeperlaw15_CorsSeen.j1] at H
       by_cases c15 : x38_8 = true
       ·subst c15
        have H1 : ((lockkeeperlaw15_awake.f kj8).bind fun t170 => (some t170)) = some r := by rw [if_pos rfl] at H; exact H
        clear H
        have H := H1
        clear H1
        replace H := Option.bind_eq_some_iff.mp H
        obtain ⟨t170, A160, H⟩ := H
        replace H : (some t170) = some r := H
        have A16 := Aside0.mk A160
        clear A160
        clear hr_
        obtain rfl := Option.some.inj H
        go_wp2_with (first | (go_at_call 8; (with_reducible refine (lockkeeperlaw15_awake.calls kj8  t170 _ A16.out).mono ?_); rintro e w17 ⟨rfl, hb⟩; have n0_ := Aside0.mk (Kd.R_below (by (with_reducible repeat (first | apply Kd.R_alloc | apply Kd.R_drewN | apply Kd.R_drew)); exact HO_7.out) hb); have n1_ := Aside0.mk (below_step (by repeat (first | (with_reducible first | exact HB.out | apply below_alloc | apply pw_below_drewN | apply below_drew1) | exact HB.out)) hb); clear HO_7; clear HB; have HO_7 := n0_; have HB := n1_; clear n0_ n1_; (try clear hb); (try clear hb2); (try clear hk); (try clear hi)))
        repeat (go_quiet (first | (go_at_call 8; (with_reducible refine (lockkeeperlaw15_awake.calls kj8  t170 _ A16.out).mono ?_); rintro e w17 ⟨rfl, hb⟩; have n0_ := Aside0.mk (Kd.R_below (by (with_reducible repeat (first | apply Kd.R_alloc | apply Kd.R_drewN | apply Kd.R_drew)); exact HO_7.out) hb); have n1_ := Aside0.mk (below_step (by repeat (first | (with_reducible first | exact HB.out | apply below_alloc | apply pw_below_drewN | apply below_drew1) | exact HB.out)) hb); clear HO_7; clear HB; have HO_7 := n0_; have HB := n1_; clear n0_ n1_; (try clear hb); (try clear hb2); (try clear hk); (try clear hi))); try go_wp2_with (first | (go_at_call 8; (with_reducible refine (lockkeeperlaw15_awake.calls kj8  t170 _ A16.out).mono ?_); rintro e w17 ⟨rfl, hb⟩; have n0_ := Aside0.mk (Kd.R_below (by (with_reducible repeat (first | apply Kd.R_alloc | apply Kd.R_drewN | apply Kd.R_drew)); exact HO_7.out) hb); have n1_ := Aside0.mk (below_step (by repeat (first | (with_reducible first | exact HB.out | apply below_alloc | apply pw_below_drewN | apply below_drew1) | exact HB.out)) hb); clear HO_7; clear HB; have HO_7 := n0_; have HB := n1_; clear n0_ n1_; (try clear hb); (try clear hb2); (try clear hk); (try clear hi))))
        go_ret
        exact ⟨by first | rfl | (simp [errW_none, errW_some] <;> rfl) | (simp [*, errW_none, errW_some] <;> rfl), by repeat (first | (with_reducible first | exact HB.out | apply below_alloc | apply pw_below_drewN | apply below_drew1) | exact HB.out)⟩
       ·replace c15 := Bool.eq_false_iff.mpr c15
        subst c15
        have H1 : (if 0 ≤ x8_1 then (if x8_1 < (l0.length : Int) then (if x7_1.length < 4398046511104 then ((some (x7_1 ++ [(⟨(rd_T35 l0 x8_1).f0, (rd_T35 l0 x8_1).f1⟩ : S35)] : List (S35))).bind fun y172 => (if a2 = true then (if y172.length < 4398046511104 then (lockkeeperlaw15_CorsSeen.l0 kj8 l0 a1 a2 (y172 ++ [(⟨(⟨#[65, 99, 99, 101, 115, 115, 45, 67, 111, 110, 116, 114, 111, 108, 45, 69, 120, 112, 111, 115, 101, 45, 72, 101, 97, 100, 101, 114, 115]⟩ : ByteArray), (⟨#[42]⟩ : ByteArray)⟩ : S35)]) (wrap64 (x8_1 + 1))) else (none)) else (if y172.length < 4398046511104 then (lockkeeperlaw15_CorsSeen.l0 kj8 l0 a1 a2 (y172 ++ [(⟨(⟨#[65, 99, 99, 101, 115, 115, 45, 67, 111, 110, 116, 114, 111, 108, 45, 69, 120, 112, 111, 115, 101, 45, 72, 101, 97, 100, 101, 114, 115]⟩ : ByteArray), (rd_T35 l0 x8_1).f0⟩ : S35)]) (wrap64 (x8_1 + 1))) else (none)))) else (none)) else (none)) else (none)) = some r := by rw [if_neg (show ¬ (false = true) by decide)] at H; exact H
        clear H
        have H := H1
        clear H1
        by_cases c18 : 0 ≤ x8_1
        ·rw [if_pos c18] at H
         have c18b0 : decide (0 ≤ x8_1) = true := decide_eq_true c18
         clear c18
         by_cases c19 : x8_1 < (l0.length : Int)
         ·rw [if_pos c19] at H
          have c19b0 : decide (x8_1 < (l0.length : Int)) = true := decide_eq_true c19
          clear c19
          by_cases c20 : x7_1.length < 4398046511104
          ·rw [if_pos c20] at H
           have LMc20 := Aside0.mk c20
           clear c20
           obtain ⟨y172, hy172⟩ : ∃ y_ : List (S35), y_ = (x7_1 ++ [(⟨(rd_T35 l0 x8_1).f0, (rd_T35 l0 x8_1).f1⟩ : S35)]) := ⟨_, rfl⟩
           replace H : (if a2 = true then (if y172.length < 4398046511104 then (lockkeeperlaw15_CorsSeen.l0 kj8 l0 a1 a2 (y172 ++ [(⟨(⟨#[65, 99, 99, 101, 115, 115, 45, 67, 111, 110, 116, 114, 111, 108, 45, 69, 120, 112, 111, 115, 101, 45, 72, 101, 97, 100, 101, 114, 115]⟩ : ByteArray), (⟨#[42]⟩ : ByteArray)⟩ : S35)]) (wrap64 (x8_1 + 1))) else (none)) else (if y172.length < 4398046511104 then (lockkeeperlaw15_CorsSeen.l0 kj8 l0 a1 a2 (y172 ++ [(⟨(⟨#[65, 99, 99, 101, 115, 115, 45, 67, 111, 110, 116, 114, 111, 108, 45, 69, 120, 112, 111, 115, 101, 45, 72, 101, 97, 100, 101, 114, 115]⟩ : ByteArray), (rd_T35 l0 x8_1).f0⟩ : S35)]) (wrap64 (x8_1 + 1))) else (none))) = some r := by first | (rw [hy172]; with_reducible exact H) | (have H2_ := (Option.bind_some _ _).symm.trans H; rw [hy172]; with_reducible exact H2_) | (have H2_ := (Option.bind_some _ _).symm.trans H; with_reducible exact H2_) | with_reducible exact H | (rw [hy172]; exact H) | exact H
           have Ny172 := Aside0.mk hy172
           clear hy172
           by_cases c21 : a2 = true
           ·subst c21
            have H1 : (if y172.length < 4398046511104 then (lockkeeperlaw15_CorsSeen.l0 kj8 l0 a1 true (y172 ++ [(⟨(⟨#[65, 99, 99, 101, 115, 115, 45, 67, 111, 110, 116, 114, 111, 108, 45, 69, 120, 112, 111, 115, 101, 45, 72, 101, 97, 100, 101, 114, 115]⟩ : ByteArray), (⟨#[42]⟩ : ByteArray)⟩ : S35)]) (wrap64 (x8_1 + 1))) else (none)) = some r := by rw [if_pos rfl] at H; exact H
            clear H
            have H := H1
            clear H1
            by_cases c22 : y172.length < 4398046511104
            ·rw [if_pos c22] at H
             have LMc22 := Aside0.mk c22
             clear c22
             obtain ⟨y176, hy176⟩ : ∃ y_ : List (S35), y_ = (y172 ++ [(⟨(⟨#[65, 99, 99, 101, 115, 115, 45, 67, 111, 110, 116, 114, 111, 108, 45, 69, 120, 112, 111, 115, 101, 45, 72, 101, 97, 100, 101, 114, 115]⟩ : ByteArray), (⟨#[42]⟩ : ByteArray)⟩ : S35)]) := ⟨_, rfl⟩
             replace H : (lockkeeperlaw15_CorsSeen.l0 kj8 l0 a1 true y176 (wrap64 (x8_1 + 1))) = some r := by first | (rw [hy176]; with_reducible exact H) | (have H2_ := (Option.bind_some _ _).symm.trans H; rw [hy176]; with_reducible exact H2_) | (have H2_ := (Option.bind_some _ _).symm.trans H; with_reducible exact H2_) | with_reducible exact H | (rw [hy176]; exact H) | exact H
             have Ny176 := Aside0.mk hy176
             clear hy176
             have H' := Aside0.mk H
             clear H
             have p171 : 0 ≤ (x8_1 : Int) := of_decide_eq_true (by first | (with_reducible assumption) | assumption)
             have q171 : x8_1 < (l0.length : Int) := of_decide_eq_true (by first | (with_reducible assumption) | assumption)
             obtain ⟨ad171, e171, hx171_0, hx171_1⟩ := at_T35 HR0.out x8_1 p171 q171
             cases e171
             replace hx171_0 := (HB.out.cell (World.block_lt_of_cell? w _ hx171_0)).trans hx171_0
             replace hx171_1 := (HB.out.cell (World.block_lt_of_cell? w _ hx171_1)).trans hx171_1
             replace p171 := eq_true p171
             replace q171 := eq_true q171
             go_wp2_with (first | ((with_reducible refine gate_builtin (b := .append) (xs := #[.tmp 40, .tmp 45]) rfl ?_); at_builtin; refine Kd.R_append k35 (w0 := w) w.heap.size rfl (.tmp 40) (.tmp 45) 22 35 (.agg #[(.string ⟨#[]⟩), (.string ⟨#[]⟩)]) 32 rfl Tryd.underlying22 info35 rfl (by decide) (by omega) u7 x7_1 (⟨(rd_T35 l0 x8_1).f0, (rd_T35 l0 x8_1).f1⟩ : S35) [.string ((rd_T35 l0 x8_1).f0), .string ((rd_T35 l0 x8_1).f1)] (fun _ => True) (fun _ => False) rfl rfl ?aP (fun _ hk => hk.elim) ?aF ?aO ?aB ?aS ?aL ?_; (case aP => exact k35_mkM _ _ _ (⟨(rd_T35 l0 x8_1).f0, (rd_T35 l0 x8_1).f1⟩ : S35)); (case aB => exact (by repeat (first | (with_reducible first | exact HB.out | apply below_alloc | apply pw_below_drewN | apply below_drew1) | exact HB.out))); (case aF => exact (fun _ _ => trivial)); (case aO => exact (by (with_reducible repeat (first | apply Kd.R_alloc | apply Kd.R_drewN | apply Kd.R_drew)); exact HO_7.out)); (case aS => exact (below_size (by repeat (first | (with_reducible first | exact HB.out | apply below_alloc | apply pw_below_drewN | apply below_drew1) | exact HB.out)))); (case aL => have := LMc20.out; omega); intro v173 w23 ho hb hg hat; rw [← Ny172.out] at ho; have n0_ := Aside0.mk (hb); have n1_ := Aside0.mk (ho); clear HB; clear HO_7; have HB := n0_; have HO174 := n1_; clear n0_ n1_; clear ho hb hg hat; have p175 : 0 ≤ (x8_1 : Int) := of_decide_eq_true (by first | (with_reducible assumption) | assumption); have q175 : x8_1 < (l0.length : Int) := of_decide_eq_true (by first | (with_reducible assumption) | assumption); obtain ⟨ad175, e175, hx175_0, hx175_1⟩ := at_T35 HR0.out x8_1 p175 q175; obtain rfl : ad171 = ad175 := (by injection e175); replace hx175_0 := (HB.out.cell (World.block_lt_of_cell? w _ hx175_0)).trans hx175_0; replace hx175_1 := (HB.out.cell (World.block_lt_of_cell? w _ hx175_1)).trans hx175_1; replace p175 := eq_true p175; replace q175 := eq_true q175) | ((with_reducible refine gate_builtin (b := .append) (xs := #[.tmp 53, .tmp 56]) rfl ?_); at_builtin; refine Kd.R_append k35 (w0 := w) w.heap.size rfl (.tmp 53) (.tmp 56) 22 35 (.agg #[(.string ⟨#[]⟩), (.string ⟨#[]⟩)]) 32 rfl Tryd.underlying22 info35 rfl (by decide) (by omega) v173 y172 (⟨(⟨#[65, 99, 99, 101, 115, 115, 45, 67, 111, 110, 116, 114, 111, 108, 45, 69, 120, 112, 111, 115, 101, 45, 72, 101, 97, 100, 101, 114, 115]⟩ : ByteArray), (⟨#[42]⟩ : ByteArray)⟩ : S35) [.string (⟨#[65, 99, 99, 101, 115, 115, 45, 67, 111, 110, 116, 114, 111, 108, 45, 69, 120, 112, 111, 115, 101, 45, 72, 101, 97, 100, 101, 114, 115]⟩ : ByteArray), .string (⟨#[42]⟩ : ByteArray)] (fun _ => True) (fun _ => False) rfl rfl ?aP (fun _ hk => hk.elim) ?aF ?aO ?aB ?aS ?aL ?_; (case aP => exact k35_mkM _ _ _ (⟨(⟨#[65, 99, 99, 101, 115, 115, 45, 67, 111, 110, 116, 114, 111, 108, 45, 69, 120, 112, 111, 115, 101, 45, 72, 101, 97, 100, 101, 114, 115]⟩ : ByteArray), (⟨#[42]⟩ : ByteArray)⟩ : S35)); (case aB => exact (by repeat (first | (with_reducible first | exact HB.out | apply below_alloc | apply pw_below_drewN | apply below_drew1) | exact HB.out))); (case aF => exact (fun _ _ => trivial)); (case aO => exact (by (with_reducible repeat (first | apply Kd.R_alloc | apply Kd.R_drewN | apply Kd.R_drew)); exact HO174.out)); (case aS => exact (below_size (by repeat (first | (with_reducible first | exact HB.out | apply below_alloc | apply pw_below_drewN | apply below_drew1) | exact HB.out)))); (case aL => have := LMc22.out; omega); intro v177 w24 ho hb hg hat; rw [← Ny176.out] at ho; have n0_ := Aside0.mk (hb); have n1_ := Aside0.mk (ho); clear HB; clear HO174; have HB := n0_; have HO178 := n1_; clear n0_ n1_; clear ho hb hg hat))
             repeat (go_quiet (first | ((with_reducible refine gate_builtin (b := .append) (xs := #[.tmp 40, .tmp 45]) rfl ?_); at_builtin; refine Kd.R_append k35 (w0 := w) w.heap.size rfl (.tmp 40) (.tmp 45) 22 35 (.agg #[(.string ⟨#[]⟩), (.string ⟨#[]⟩)]) 32 rfl Tryd.underlying22 info35 rfl (by decide) (by omega) u7 x7_1 (⟨(rd_T35 l0 x8_1).f0, (rd_T35 l0 x8_1).f1⟩ : S35) [.string ((rd_T35 l0 x8_1).f0), .string ((rd_T35 l0 x8_1).f1)] (fun _ => True) (fun _ => False) rfl rfl ?aP (fun _ hk => hk.elim) ?aF ?aO ?aB ?aS ?aL ?_; (case aP => exact k35_mkM _ _ _ (⟨(rd_T35 l0 x8_1).f0, (rd_T35 l0 x8_1).f1⟩ : S35)); (case aB => exact (by repeat (first | (with_reducible first | exact HB.out | apply below_alloc | apply pw_below_drewN | apply below_drew1) | exact HB.out))); (case aF => exact (fun _ _ => trivial)); (case aO => exact (by (with_reducible repeat (first | apply Kd.R_alloc | apply Kd.R_drewN | apply Kd.R_drew)); exact HO_7.out)); (case aS => exact (below_size (by repeat (first | (with_reducible first | exact HB.out | apply below_alloc | apply pw_below_drewN | apply below_drew1) | exact HB.out)))); (case aL => have := LMc20.out; omega); intro v173 w23 ho hb hg hat; rw [← Ny172.out] at ho; have n0_ := Aside0.mk (hb); have n1_ := Aside0.mk (ho); clear HB; clear HO_7; have HB := n0_; have HO174 := n1_; clear n0_ n1_; clear ho hb hg hat; have p175 : 0 ≤ (x8_1 : Int) := of_decide_eq_true (by first | (with_reducible assumption) | assumption); have q175 : x8_1 < (l0.length : Int) := of_decide_eq_true (by first | (with_reducible assumption) | assumption); obtain ⟨ad175, e175, hx175_0, hx175_1⟩ := at_T35 HR0.out x8_1 p175 q175; obtain rfl : ad171 = ad175 := (by injection e175); replace hx175_0 := (HB.out.cell (World.block_lt_of_cell? w _ hx175_0)).trans hx175_0; replace hx175_1 := (HB.out.cell (World.block_lt_of_cell? w _ hx175_1)).trans hx175_1; replace p175 := eq_true p175; replace q175 := eq_true q175) | ((with_reducible refine gate_builtin (b := .append) (xs := #[.tmp 53, .tmp 56]) rfl ?_); at_builtin; refine Kd.R_append k35 (w0 := w) w.heap.size rfl (.tmp 53) (.tmp 56) 22 35 (.agg #[(.string ⟨#[]⟩), (.string ⟨#[]⟩)]) 32 rfl Tryd.underlying22 info35 rfl (by decide) (by omega) v173 y172 (⟨(⟨#[65, 99, 99, 101, 115, 115, 45, 67, 111, 110, 116, 114, 111, 108, 45, 69, 120, 112, 111, 115, 101, 45, 72, 101, 97, 100, 101, 114, 115]⟩ : ByteArray), (⟨#[42]⟩ : ByteArray)⟩ : S35) [.string (⟨#[65, 99, 99, 101, 115, 115, 45, 67, 111, 110, 116, 114, 111, 108, 45, 69, 120, 112, 111, 115, 101, 45, 72, 101, 97, 100, 101, 114, 115]⟩ : ByteArray), .string (⟨#[42]⟩ : ByteArray)] (fun _ => True) (fun _ => False) rfl rfl ?aP (fun _ hk => hk.elim) ?aF ?aO ?aB ?aS ?aL ?_; (case aP => exact k35_mkM _ _ _ (⟨(⟨#[65, 99, 99, 101, 115, 115, 45, 67, 111, 110, 116, 114, 111, 108, 45, 69, 120, 112, 111, 115, 101, 45, 72, 101, 97, 100, 101, 114, 115]⟩ : ByteArray), (⟨#[42]⟩ : ByteArray)⟩ : S35)); (case aB => exact (by repeat (first | (with_reducible first | exact HB.out | apply below_alloc | apply pw_below_drewN | apply below_drew1) | exact HB.out))); (case aF => exact (fun _ _ => trivial)); (case aO => exact (by (with_reducible repeat (first | apply Kd.R_alloc | apply Kd.R_drewN | apply Kd.R_drew)); exact HO174.out)); (case aS => exact (below_size (by repeat (first | (with_reducible first | exact HB.out | apply below_alloc | apply pw_below_drewN | apply below_drew1) | exact HB.out)))); (case aL => have := LMc22.out; omega); intro v177 w24 ho hb hg hat; rw [← Ny176.out] at ho; have n0_ := Aside0.mk (hb); have n1_ := Aside0.mk (ho); clear HB; clear HO174; have HB := n0_; have HO178 := n1_; clear n0_ n1_; clear ho hb hg hat)); try go_wp2_with (first | ((with_reducible refine gate_builtin (b := .append) (xs := #[.tmp 40, .tmp 45]) rfl ?_); at_builtin; refine Kd.R_append k35 (w0 := w) w.heap.size rfl (.tmp 40) (.tmp 45) 22 35 (.agg #[(.string ⟨#[]⟩), (.string ⟨#[]⟩)]) 32 rfl Tryd.underlying22 info35 rfl (by decide) (by omega) u7 x7_1 (⟨(rd_T35 l0 x8_1).f0, (rd_T35 l0 x8_1).f1⟩ : S35) [.string ((rd_T35 l0 x8_1).f0), .string ((rd_T35 l0 x8_1).f1)] (fun _ => True) (fun _ => False) rfl rfl ?aP (fun _ hk => hk.elim) ?aF ?aO ?aB ?aS ?aL ?_; (case aP => exact k35_mkM _ _ _ (⟨(rd_T35 l0 x8_1).f0, (rd_T35 l0 x8_1).f1⟩ : S35)); (case aB => exact (by repeat (first | (with_reducible first | exact HB.out | apply below_alloc | apply pw_below_drewN | apply below_drew1) | exact HB.out))); (case aF => exact (fun _ _ => trivial)); (case aO => exact (by (with_reducible repeat (first | apply Kd.R_alloc | apply Kd.R_drewN | apply Kd.R_drew)); exact HO_7.out)); (case aS => exact (below_size (by repeat (first | (with_reducible first | exact HB.out | apply below_alloc | apply pw_below_drewN | apply below_drew1) | exact HB.out)))); (case aL => have := LMc20.out; omega); intro v173 w23 ho hb hg hat; rw [← Ny172.out] at ho; have n0_ := Aside0.mk (hb); have n1_ := Aside0.mk (ho); clear HB; clear HO_7; have HB := n0_; have HO174 := n1_; clear n0_ n1_; clear ho hb hg hat; have p175 : 0 ≤ (x8_1 : Int) := of_decide_eq_true (by first | (with_reducible assumption) | assumption); have q175 : x8_1 < (l0.length : Int) := of_decide_eq_true (by first | (with_reducible assumption) | assumption); obtain ⟨ad175, e175, hx175_0, hx175_1⟩ := at_T35 HR0.out x8_1 p175 q175; obtain rfl : ad171 = ad175 := (by injection e175); replace hx175_0 := (HB.out.cell (World.block_lt_of_cell? w _ hx175_0)).trans hx175_0; replace hx175_1 := (HB.out.cell (World.block_lt_of_cell? w _ hx175_1)).trans hx175_1; replace p175 := eq_true p175; replace q175 := eq_true q175) | ((with_reducible refine gate_builtin (b := .append) (xs := #[.tmp 53, .tmp 56]) rfl ?_); at_builtin; refine Kd.R_append k35 (w0 := w) w.heap.size rfl (.tmp 53) (.tmp 56) 22 35 (.agg #[(.string ⟨#[]⟩), (.string ⟨#[]⟩)]) 32 rfl Tryd.underlying22 info35 rfl (by decide) (by omega) v173 y172 (⟨(⟨#[65, 99, 99, 101, 115, 115, 45, 67, 111, 110, 116, 114, 111, 108, 45, 69, 120, 112, 111, 115, 101, 45, 72, 101, 97, 100, 101, 114, 115]⟩ : ByteArray), (⟨#[42]⟩ : ByteArray)⟩ : S35) [.string (⟨#[65, 99, 99, 101, 115, 115, 45, 67, 111, 110, 116, 114, 111, 108, 45, 69, 120, 112, 111, 115, 101, 45, 72, 101, 97, 100, 101, 114, 115]⟩ : ByteArray), .string (⟨#[42]⟩ : ByteArray)] (fun _ => True) (fun _ => False) rfl rfl ?aP (fun _ hk => hk.elim) ?aF ?aO ?aB ?aS ?aL ?_; (case aP => exact k35_mkM _ _ _ (⟨(⟨#[65, 99, 99, 101, 115, 115, 45, 67, 111, 110, 116, 114, 111, 108, 45, 69, 120, 112, 111, 115, 101, 45, 72, 101, 97, 100, 101, 114, 115]⟩ : ByteArray), (⟨#[42]⟩ : ByteArray)⟩ : S35)); (case aB => exact (by repeat (first | (with_reducible first | exact HB.out | apply below_alloc | apply pw_below_drewN | apply below_drew1) | exact HB.out))); (case aF => exact (fun _ _ => trivial)); (case aO => exact (by (with_reducible repeat (first | apply Kd.R_alloc | apply Kd.R_drewN | apply Kd.R_drew)); exact HO174.out)); (case aS => exact (below_size (by repeat (first | (with_reducible first | exact HB.out | apply below_alloc | apply pw_below_drewN | apply below_drew1) | exact HB.out)))); (case aL => have := LMc22.out; omega); intro v177 w24 ho hb hg hat; rw [← Ny176.out] at ho; have n0_ := Aside0.mk (hb); have n1_ := Aside0.mk (ho); clear HB; clear HO174; have HB := n0_; have HO178 := n1_; clear n0_ n1_; clear ho hb hg hat)))
             go_roundg kj8
             case measure => have := HK1.out; have := HJ8.out; omega
             case rel => exact ⟨(y176), (wrap64 (x8_1 + 1)), (by first | rfl | (simp; done) | (simp [*]; done)), H', ⟨by have := HK1.out; have := HJ8.out; omega⟩, ⟨by (with_reducible repeat (first | apply Kd.R_alloc | apply Kd.R_drewN | apply Kd.R_drew)); exact HO178.out⟩, ⟨by repeat (first | (with_reducible first | exact HB.out | apply below_alloc | apply pw_below_drewN | apply below_drew1) | exact HB.out)⟩⟩
            ·rw [if_neg c22] at H
             exact absurd H (by simp)
           ·replace c21 := Bool.eq_false_iff.mpr c21
            subst c21
            have H1 : (if y172.length < 4398046511104 then (lockkeeperlaw15_CorsSeen.l0 kj8 l0 a1 false (y172 ++ [(⟨(⟨#[65, 99, 99, 101, 115, 115, 45, 67, 111, 110, 116, 114, 111, 108, 45, 69, 120, 112, 111, 115, 101, 45, 72, 101, 97, 100, 101, 114, 115]⟩ : ByteArray), (rd_T35 l0 x8_1).f0⟩ : S35)]) (wrap64 (x8_1 + 1))) else (none)) = some r := by rw [if_neg (show ¬ (false = true) by decide)] at H; exact H
            clear H
            have H := H1
            clear H1
            by_cases c25 : y172.length < 4398046511104
            ·rw [if_pos c25] at H
             have LMc25 := Aside0.mk c25
             clear c25
             obtain ⟨y179, hy179⟩ : ∃ y_ : List (S35), y_ = (y172 ++ [(⟨(⟨#[65, 99, 99, 101, 115, 115, 45, 67, 111, 110, 116, 114, 111, 108, 45, 69, 120, 112, 111, 115, 101, 45, 72, 101, 97, 100, 101, 114, 115]⟩ : ByteArray), (rd_T35 l0 x8_1).f0⟩ : S35)]) := ⟨_, rfl⟩
             replace H : (lockkeeperlaw15_CorsSeen.l0 kj8 l0 a1 false y179 (wrap64 (x8_1 + 1))) = some r := by first | (rw [hy179]; with_reducible exact H) | (have H2_ := (Option.bind_some _ _).symm.trans H; rw [hy179]; with_reducible exact H2_) | (have H2_ := (Option.bind_some _ _).symm.trans H; with_reducible exact H2_) | with_reducible exact H | (rw [hy179]; exact H) | exact H
             have Ny179 := Aside0.mk hy179
             clear hy179
             have H' := Aside0.mk H
             clear H
             have p171 : 0 ≤ (x8_1 : Int) := of_decide_eq_true (by first | (with_reducible assumption) | assumption)
             have q171 : x8_1 < (l0.length : Int) := of_decide_eq_true (by first | (with_reducible assumption) | assumption)
             obtain ⟨ad171, e171, hx171_0, hx171_1⟩ := at_T35 HR0.out x8_1 p171 q171
             cases e171
             replace hx171_0 := (HB.out.cell (World.block_lt_of_cell? w _ hx171_0)).trans hx171_0
             replace hx171_1 := (HB.out.cell (World.block_lt_of_cell? w _ hx171_1)).trans hx171_1
             replace p171 := eq_true p171
             replace q171 := eq_true q171
             go_wp2_with (first | ((with_reducible refine gate_builtin (b := .append) (xs := #[.tmp 40, .tmp 45]) rfl ?_); at_builtin; refine Kd.R_append k35 (w0 := w) w.heap.size rfl (.tmp 40) (.tmp 45) 22 35 (.agg #[(.string ⟨#[]⟩), (.string ⟨#[]⟩)]) 32 rfl Tryd.underlying22 info35 rfl (by decide) (by omega) u7 x7_1 (⟨(rd_T35 l0 x8_1).f0, (rd_T35 l0 x8_1).f1⟩ : S35) [.string ((rd_T35 l0 x8_1).f0), .string ((rd_T35 l0 x8_1).f1)] (fun _ => True) (fun _ => False) rfl rfl ?aP (fun _ hk => hk.elim) ?aF ?aO ?aB ?aS ?aL ?_; (case aP => exact k35_mkM _ _ _ (⟨(rd_T35 l0 x8_1).f0, (rd_T35 l0 x8_1).f1⟩ : S35)); (case aB => exact (by repeat (first | (with_reducible first | exact HB.out | apply below_alloc | apply pw_below_drewN | apply below_drew1) | exact HB.out))); (case aF => exact (fun _ _ => trivial)); (case aO => exact (by (with_reducible repeat (first | apply Kd.R_alloc | apply Kd.R_drewN | apply Kd.R_drew)); exact HO_7.out)); (case aS => exact (below_size (by repeat (first | (with_reducible first | exact HB.out | apply below_alloc | apply pw_below_drewN | apply below_drew1) | exact HB.out)))); (case aL => have := LMc20.out; omega); intro v173 w26 ho hb hg hat; rw [← Ny172.out] at ho; have n0_ := Aside0.mk (hb); have n1_ := Aside0.mk (ho); clear HB; clear HO_7; have HB := n0_; have HO174 := n1_; clear n0_ n1_; clear ho hb hg hat; have p175 : 0 ≤ (x8_1 : Int) := of_decide_eq_true (by first | (with_reducible assumption) | assumption); have q175 : x8_1 < (l0.length : Int) := of_decide_eq_true (by first | (with_reducible assumption) | assumption); obtain ⟨ad175, e175, hx175_0, hx175_1⟩ := at_T35 HR0.out x8_1 p175 q175; obtain rfl : ad171 = ad175 := (by injection e175); replace hx175_0 := (HB.out.cell (World.block_lt_of_cell? w _ hx175_0)).trans hx175_0; replace hx175_1 := (HB.out.cell (World.block_lt_of_cell? w _ hx175_1)).trans hx175_1; replace p175 := eq_true p175; replace q175 := eq_true q175) | ((with_reducible refine gate_builtin (b := .append) (xs := #[.tmp 53, .tmp 56]) rfl ?_); at_builtin; refine Kd.R_append k35 (w0 := w) w.heap.size rfl (.tmp 53) (.tmp 56) 22 35 (.agg #[(.string ⟨#[]⟩), (.string ⟨#[]⟩)]) 32 rfl Tryd.underlying22 info35 rfl (by decide) (by omega) v173 y172 (⟨(⟨#[65, 99, 99, 101, 115, 115, 45, 67, 111, 110, 116, 114, 111, 108, 45, 69, 120, 112, 111, 115, 101, 45, 72, 101, 97, 100, 101, 114, 115]⟩ : ByteArray), (rd_T35 l0 x8_1).f0⟩ : S35) [.string (⟨#[65, 99, 99, 101, 115, 115, 45, 67, 111, 110, 116, 114, 111, 108, 45, 69, 120, 112, 111, 115, 101, 45, 72, 101, 97, 100, 101, 114, 115]⟩ : ByteArray), .string ((rd_T35 l0 x8_1).f0)] (fun _ => True) (fun _ => False) rfl rfl ?aP (fun _ hk => hk.elim) ?aF ?aO ?aB ?aS ?aL ?_; (case aP => exact k35_mkM _ _ _ (⟨(⟨#[65, 99, 99, 101, 115, 115, 45, 67, 111, 110, 116, 114, 111, 108, 45, 69, 120, 112, 111, 115, 101, 45, 72, 101, 97, 100, 101, 114, 115]⟩ : ByteArray), (rd_T35 l0 x8_1).f0⟩ : S35)); (case aB => exact (by repeat (first | (with_reducible first | exact HB.out | apply below_alloc | apply pw_below_drewN | apply below_drew1) | exact HB.out))); (case aF => exact (fun _ _ => trivial)); (case aO => exact (by (with_reducible repeat (first | apply Kd.R_alloc | apply Kd.R_drewN | apply Kd.R_drew)); exact HO174.out)); (case aS => exact (below_size (by repeat (first | (with_reducible first | exact HB.out | apply below_alloc | apply pw_below_drewN | apply below_drew1) | exact HB.out)))); (case aL => have := LMc25.out; omega); intro v180 w27 ho hb hg hat; rw [← Ny179.out] at ho; have n0_ := Aside0.mk (hb); have n1_ := Aside0.mk (ho); clear HB; clear HO174; have HB := n0_; have HO181 := n1_; clear n0_ n1_; clear ho hb hg hat))
             repeat (go_quiet (first | ((with_reducible refine gate_builtin (b := .append) (xs := #[.tmp 40, .tmp 45]) rfl ?_); at_builtin; refine Kd.R_append k35 (w0 := w) w.heap.size rfl (.tmp 40) (.tmp 45) 22 35 (.agg #[(.string ⟨#[]⟩), (.string ⟨#[]⟩)]) 32 rfl Tryd.underlying22 info35 rfl (by decide) (by omega) u7 x7_1 (⟨(rd_T35 l0 x8_1).f0, (rd_T35 l0 x8_1).f1⟩ : S35) [.string ((rd_T35 l0 x8_1).f0), .string ((rd_T35 l0 x8_1).f1)] (fun _ => True) (fun _ => False) rfl rfl ?aP (fun _ hk => hk.elim) ?aF ?aO ?aB ?aS ?aL ?_; (case aP => exact k35_mkM _ _ _ (⟨(rd_T35 l0 x8_1).f0, (rd_T35 l0 x8_1).f1⟩ : S35)); (case aB => exact (by repeat (first | (with_reducible first | exact HB.out | apply below_alloc | apply pw_below_drewN | apply below_drew1) | exact HB.out))); (case aF => exact (fun _ _ => trivial)); (case aO => exact (by (with_reducible repeat (first | apply Kd.R_alloc | apply Kd.R_drewN | apply Kd.R_drew)); exact HO_7.out)); (case aS => exact (below_size (by repeat (first | (with_reducible first | exact HB.out | apply below_alloc | apply pw_below_drewN | apply below_drew1) | exact HB.out)))); (case aL => have := LMc20.out; omega); intro v173 w26 ho hb hg hat; rw [← Ny172.out] at ho; have n0_ := Aside0.mk (hb); have n1_ := Aside0.mk (ho); clear HB; clear HO_7; have HB := n0_; have HO174 := n1_; clear n0_ n1_; clear ho hb hg hat; have p175 : 0 ≤ (x8_1 : Int) := of_decide_eq_true (by first | (with_reducible assumption) | assumption); have q175 : x8_1 < (l0.length : Int) := of_decide_eq_true (by first | (with_reducible assumption) | assumption); obtain ⟨ad175, e175, hx175_0, hx175_1⟩ := at_T35 HR0.out x8_1 p175 q175; obtain rfl : ad171 = ad175 := (by injection e175); replace hx175_0 := (HB.out.cell (World.block_lt_of_cell? w _ hx175_0)).trans hx175_0; replace hx175_1 := (HB.out.cell (World.block_lt_of_cell? w _ hx175_1)).trans hx175_1; replace p175 := eq_true p175; replace q175 := eq_true q175) | ((with_reducible refine gate_builtin (b := .append) (xs := #[.tmp 53, .tmp 56]) rfl ?_); at_builtin; refine Kd.R_append k35 (w0 := w) w.heap.size rfl (.tmp 53) (.tmp 56) 22 35 (.agg #[(.string ⟨#[]⟩), (.string ⟨#[]⟩)]) 32 rfl Tryd.underlying22 info35 rfl (by decide) (by omega) v173 y172 (⟨(⟨#[65, 99, 99, 101, 115, 115, 45, 67, 111, 110, 116, 114, 111, 108, 45, 69, 120, 112, 111, 115, 101, 45, 72, 101, 97, 100, 101, 114, 115]⟩ : ByteArray), (rd_T35 l0 x8_1).f0⟩ : S35) [.string (⟨#[65, 99, 99, 101, 115, 115, 45, 67, 111, 110, 116, 114, 111, 108, 45, 69, 120, 112, 111, 115, 101, 45, 72, 101, 97, 100, 101, 114, 115]⟩ : ByteArray), .string ((rd_T35 l0 x8_1).f0)] (fun _ => True) (fun _ => False) rfl rfl ?aP (fun _ hk => hk.elim) ?aF ?aO ?aB ?aS ?aL ?_; (case aP => exact k35_mkM _ _ _ (⟨(⟨#[65, 99, 99, 101, 115, 115, 45, 67, 111, 110, 116, 114, 111, 108, 45, 69, 120, 112, 111, 115, 101, 45, 72, 101, 97, 100, 101, 114, 115]⟩ : ByteArray), (rd_T35 l0 x8_1).f0⟩ : S35)); (case aB => exact (by repeat (first | (with_reducible first | exact HB.out | apply below_alloc | apply pw_below_drewN | apply below_drew1) | exact HB.out))); (case aF => exact (fun _ _ => trivial)); (case aO => exact (by (with_reducible repeat (first | apply Kd.R_alloc | apply Kd.R_drewN | apply Kd.R_drew)); exact HO174.out)); (case aS => exact (below_size (by repeat (first | (with_reducible first | exact HB.out | apply below_alloc | apply pw_below_drewN | apply below_drew1) | exact HB.out)))); (case aL => have := LMc25.out; omega); intro v180 w27 ho hb hg hat; rw [← Ny179.out] at ho; have n0_ := Aside0.mk (hb); have n1_ := Aside0.mk (ho); clear HB; clear HO174; have HB := n0_; have HO181 := n1_; clear n0_ n1_; clear ho hb hg hat)); try go_wp2_with (first | ((with_reducible refine gate_builtin (b := .append) (xs := #[.tmp 40, .tmp 45]) rfl ?_); at_builtin; refine Kd.R_append k35 (w0 := w) w.heap.size rfl (.tmp 40) (.tmp 45) 22 35 (.agg #[(.string ⟨#[]⟩), (.string ⟨#[]⟩)]) 32 rfl Tryd.underlying22 info35 rfl (by decide) (by omega) u7 x7_1 (⟨(rd_T35 l0 x8_1).f0, (rd_T35 l0 x8_1).f1⟩ : S35) [.string ((rd_T35 l0 x8_1).f0), .string ((rd_T35 l0 x8_1).f1)] (fun _ => True) (fun _ => False) rfl rfl ?aP (fun _ hk => hk.elim) ?aF ?aO ?aB ?aS ?aL ?_; (case aP => exact k35_mkM _ _ _ (⟨(rd_T35 l0 x8_1).f0, (rd_T35 l0 x8_1).f1⟩ : S35)); (case aB => exact (by repeat (first | (with_reducible first | exact HB.out | apply below_alloc | apply pw_below_drewN | apply below_drew1) | exact HB.out))); (case aF => exact (fun _ _ => trivial)); (case aO => exact (by (with_reducible repeat (first | apply Kd.R_alloc | apply Kd.R_drewN | apply Kd.R_drew)); exact HO_7.out)); (case aS => exact (below_size (by repeat (first | (with_reducible first | exact HB.out | apply below_alloc | apply pw_below_drewN | apply below_drew1) | exact HB.out)))); (case aL => have := LMc20.out; omega); intro v173 w26 ho hb hg hat; rw [← Ny172.out] at ho; have n0_ := Aside0.mk (hb); have n1_ := Aside0.mk (ho); clear HB; clear HO_7; have HB := n0_; have HO174 := n1_; clear n0_ n1_; clear ho hb hg hat; have p175 : 0 ≤ (x8_1 : Int) := of_decide_eq_true (by first | (with_reducible assumption) | assumption); have q175 : x8_1 < (l0.length : Int) := of_decide_eq_true (by first | (with_reducible assumption) | assumption); obtain ⟨ad175, e175, hx175_0, hx175_1⟩ := at_T35 HR0.out x8_1 p175 q175; obtain rfl : ad171 = ad175 := (by injection e175); replace hx175_0 := (HB.out.cell (World.block_lt_of_cell? w _ hx175_0)).trans hx175_0; replace hx175_1 := (HB.out.cell (World.block_lt_of_cell? w _ hx175_1)).trans hx175_1; replace p175 := eq_true p175; replace q175 := eq_true q175) | ((with_reducible refine gate_builtin (b := .append) (xs := #[.tmp 53, .tmp 56]) rfl ?_); at_builtin; refine Kd.R_append k35 (w0 := w) w.heap.size rfl (.tmp 53) (.tmp 56) 22 35 (.agg #[(.string ⟨#[]⟩), (.string ⟨#[]⟩)]) 32 rfl Tryd.underlying22 info35 rfl (by decide) (by omega) v173 y172 (⟨(⟨#[65, 99, 99, 101, 115, 115, 45, 67, 111, 110, 116, 114, 111, 108, 45, 69, 120, 112, 111, 115, 101, 45, 72, 101, 97, 100, 101, 114, 115]⟩ : ByteArray), (rd_T35 l0 x8_1).f0⟩ : S35) [.string (⟨#[65, 99, 99, 101, 115, 115, 45, 67, 111, 110, 116, 114, 111, 108, 45, 69, 120, 112, 111, 115, 101, 45, 72, 101, 97, 100, 101, 114, 115]⟩ : ByteArray), .string ((rd_T35 l0 x8_1).f0)] (fun _ => True) (fun _ => False) rfl rfl ?aP (fun _ hk => hk.elim) ?aF ?aO ?aB ?aS ?aL ?_; (case aP => exact k35_mkM _ _ _ (⟨(⟨#[65, 99, 99, 101, 115, 115, 45, 67, 111, 110, 116, 114, 111, 108, 45, 69, 120, 112, 111, 115, 101, 45, 72, 101, 97, 100, 101, 114, 115]⟩ : ByteArray), (rd_T35 l0 x8_1).f0⟩ : S35)); (case aB => exact (by repeat (first | (with_reducible first | exact HB.out | apply below_alloc | apply pw_below_drewN | apply below_drew1) | exact HB.out))); (case aF => exact (fun _ _ => trivial)); (case aO => exact (by (with_reducible repeat (first | apply Kd.R_alloc | apply Kd.R_drewN | apply Kd.R_drew)); exact HO174.out)); (case aS => exact (below_size (by repeat (first | (with_reducible first | exact HB.out | apply below_alloc | apply pw_below_drewN | apply below_drew1) | exact HB.out)))); (case aL => have := LMc25.out; omega); intro v180 w27 ho hb hg hat; rw [← Ny179.out] at ho; have n0_ := Aside0.mk (hb); have n1_ := Aside0.mk (ho); clear HB; clear HO174; have HB := n0_; have HO181 := n1_; clear n0_ n1_; clear ho hb hg hat)))
             go_roundg kj8
             case measure => have := HK1.out; have := HJ8.out; omega
             case rel => exact ⟨(y179), (wrap64 (x8_1 + 1)), (by first | rfl | (simp; done) | (simp [*]; done)), H', ⟨by have := HK1.out; have := HJ8.out; omega⟩, ⟨by (with_reducible repeat (first | apply Kd.R_alloc | apply Kd.R_drewN | apply Kd.R_drew)); exact HO181.out⟩, ⟨by repeat (first | (with_reducible first | exact HB.out | apply below_alloc | apply pw_below_drewN | apply below_drew1) | exact HB.out)⟩⟩
            ·rw [if_neg c25] at H
             exact absurd H (by simp)
          ·rw [if_neg c20] at H
           exact absurd H (by simp)
         ·rw [if_neg c19] at H
          exact absurd H (by simp)
        ·rw [if_neg c18] at H
         exact absurd H (by simp)
    ·rw [if_neg c8] at H
     have c8b0 : decide (x8_1 < (l0.length : Int)) = false := decide_eq_false c8
     clear c8
     replace H := Option.bind_eq_some_iff.mp H
     obtain ⟨t182, A280, H⟩ := H
     replace H : ((header_Norm.f k1 l0).bind fun t185 => (lockkeeperlaw15_CorsSeen.l1 k1 a1 a2 x7_1 t182 t185 0 0)) = some r := H
     have A28 := Aside0.mk A280
     clear A280
     replace H := Option.bind_eq_some_iff.mp H
     obtain ⟨t185, A290, H⟩ := H
     replace H : (lockkeeperlaw15_CorsSeen.l1 k1 a1 a2 x7_1 t182 t185 0 0) = some r := H
     have A29 := Aside0.mk A290
     clear A290
     have H' := Aside0.mk H
     clear H
     obtain ⟨Ao30, co30, eo30⟩ := Kd.R_slice HO_7.out
     subst eo30
     go_wp2_with (first | (go_at_call 12; (with_reducible refine (cors_Seen.calls k1 a1 _ _ x7_1 t182 _ ?side1 ?side2 A28.out).mono ?_); (case side1 => repeat (first | exact (Kd.R_reads' HO_7.out).2.2 | (with_reducible refine Kd.C_alloc ?_ _) | (with_reducible refine Kd.C_drewN ?_ _) | (with_reducible refine Kd.C_drew ?_))); (case side2 => exact (Kd.R_reads' HO_7.out).2.1); rintro e w31 ⟨v183, rfl, ho0, hb⟩; have n0_ := Aside0.mk (Kd.R_elder' (by (with_reducible repeat (first | apply Kd.R_alloc | apply Kd.R_drewN | apply Kd.R_drew)); exact HO_7.out) (Kd.R_base ho0) hb); have n1_ := Aside0.mk (Kd.R_lower (Kd.R_new' ho0 (Kd.R_lt (by (with_reducible repeat (first | apply Kd.R_alloc | apply Kd.R_drewN | apply Kd.R_drew)); exact HO_7.out))) (below_size (by repeat (first | (with_reducible first | exact HB.out | apply below_alloc | apply pw_below_drewN | apply below_drew1) | exact HB.out)))); have n2_ := Aside0.mk (below_step (by repeat (first | (with_reducible first | exact HB.out | apply below_alloc | apply pw_below_drewN | apply below_drew1) | exact HB.out)) hb); clear HO_7; clear HB; have HO_7 := n0_; have HO184 := n1_; have HB := n2_; clear n0_ n1_ n2_; (try clear hb); (try clear hb2); (try clear hk); (try clear hi); (try clear ho0)) | (go_at_call 16; (with_reducible refine (header_Norm.calls k1 _ _ l0 t185 _ ?side1 ?side2 A29.out).mono ?_); (case side1 => repeat (first | exact (Kd.C_below HR0.out HB.out) | (with_reducible refine Kd.C_alloc ?_ _) | (with_reducible refine Kd.C_drewN ?_ _) | (with_reducible refine Kd.C_drew ?_))); (case side2 => exact HC0.out); rintro e w32 ⟨v186, rfl, ho0, hb⟩; have n0_ := Aside0.mk (Kd.R_elder' (by (with_reducible repeat (first | apply Kd.R_alloc | apply Kd.R_drewN | apply Kd.R_drew)); exact HO_7.out) (Kd.R_base ho0) hb); have n1_ := Aside0.mk (Kd.R_elder' (by (with_reducible repeat (first | apply Kd.R_alloc | apply Kd.R_drewN | apply Kd.R_drew)); exact HO184.out) (Kd.R_base ho0) hb); have n2_ := Aside0.mk (Kd.R_lower (Kd.R_new' (Kd.R_new' ho0 (Kd.R_lt (by (with_reducible repeat (first | apply Kd.R_alloc | apply Kd.R_drewN | apply Kd.R_drew)); exact HO_7.out))) (Kd.R_lt (by (with_reducible repeat (first | apply Kd.R_alloc | apply Kd.R_drewN | apply Kd.R_drew)); exact HO184.out))) (below_size (by repeat (first | (with_reducible first | exact HB.out | apply below_alloc | apply pw_below_drewN | apply below_drew1) | exact HB.out)))); have n3_ := Aside0.mk (below_step (by repeat (first | (with_reducible first | exact HB.out | apply below_alloc | apply pw_below_drewN | apply below_drew1) | exact HB.out)) hb); clear HO_7; clear HO184; clear HB; have HO_7 := n0_; have HO184 := n1_; have HO187 := n2_; have HB := n3_; clear n0_ n1_ n2_ n3_; (try clear hb); (try clear hb2); (try clear hk); (try clear hi); (try clear ho0)))
     repeat (go_quiet (first | (go_at_call 12; (with_reducible refine (cors_Seen.calls k1 a1 _ _ x7_1 t182 _ ?side1 ?side2 A28.out).mono ?_); (case side1 => repeat (first | exact (Kd.R_reads' HO_7.out).2.2 | (with_reducible refine Kd.C_alloc ?_ _) | (with_reducible refine Kd.C_drewN ?_ _) | (with_reducible refine Kd.C_drew ?_))); (case side2 => exact (Kd.R_reads' HO_7.out).2.1); rintro e w31 ⟨v183, rfl, ho0, hb⟩; have n0_ := Aside0.mk (Kd.R_elder' (by (with_reducible repeat (first | apply Kd.R_alloc | apply Kd.R_drewN | apply Kd.R_drew)); exact HO_7.out) (Kd.R_base ho0) hb); have n1_ := Aside0.mk (Kd.R_lower (Kd.R_new' ho0 (Kd.R_lt (by (with_reducible repeat (first | apply Kd.R_alloc | apply Kd.R_drewN | apply Kd.R_drew)); exact HO_7.out))) (below_size (by repeat (first | (with_reducible first | exact HB.out | apply below_alloc | apply pw_below_drewN | apply below_drew1) | exact HB.out)))); have n2_ := Aside0.mk (below_step (by repeat (first | (with_reducible first | exact HB.out | apply below_alloc | apply pw_below_drewN | apply below_drew1) | exact HB.out)) hb); clear HO_7; clear HB; have HO_7 := n0_; have HO184 := n1_; have HB := n2_; clear n0_ n1_ n2_; (try clear hb); (try clear hb2); (try clear hk); (try clear hi); (try clear ho0)) | (go_at_call 16; (with_reducible refine (header_Norm.calls k1 _ _ l0 t185 _ ?side1 ?side2 A29.out).mono ?_); (case side1 => repeat (first | exact (Kd.C_below HR0.out HB.out) | (with_reducible refine Kd.C_alloc ?_ _) | (with_reducible refine Kd.C_drewN ?_ _) | (with_reducible refine Kd.C_drew ?_))); (case side2 => exact HC0.out); rintro e w32 ⟨v186, rfl, ho0, hb⟩; have n0_ := Aside0.mk (Kd.R_elder' (by (with_reducible repeat (first | apply Kd.R_alloc | apply Kd.R_drewN | apply Kd.R_drew)); exact HO_7.out) (Kd.R_base ho0) hb); have n1_ := Aside0.mk (Kd.R_elder' (by (with_reducible repeat (first | apply Kd.R_alloc | apply Kd.R_drewN | apply Kd.R_drew)); exact HO184.out) (Kd.R_base ho0) hb); have n2_ := Aside0.mk (Kd.R_lower (Kd.R_new' (Kd.R_new' ho0 (Kd.R_lt (by (with_reducible repeat (first | apply Kd.R_alloc | apply Kd.R_drewN | apply Kd.R_drew)); exact HO_7.out))) (Kd.R_lt (by (with_reducible repeat (first | apply Kd.R_alloc | apply Kd.R_drewN | apply Kd.R_drew)); exact HO184.out))) (below_size (by repeat (first | (with_reducible first | exact HB.out | apply below_alloc | apply pw_below_drewN | apply below_drew1) | exact HB.out)))); have n3_ := Aside0.mk (below_step (by repeat (first | (with_reducible first | exact HB.out | apply below_alloc | apply pw_below_drewN | apply below_drew1) | exact HB.out)) hb); clear HO_7; clear HO184; clear HB; have HO_7 := n0_; have HO184 := n1_; have HO187 := n2_; have HB := n3_; clear n0_ n1_ n2_ n3_; (try clear hb); (try clear hb2); (try clear hk); (try clear hi); (try clear ho0))); try go_wp2_with (first | (go_at_call 12; (with_reducible refine (cors_Seen.calls k1 a1 _ _ x7_1 t182 _ ?side1 ?side2 A28.out).mono ?_); (case side1 => repeat (first | exact (Kd.R_reads' HO_7.out).2.2 | (with_reducible refine Kd.C_alloc ?_ _) | (with_reducible refine Kd.C_drewN ?_ _) | (with_reducible refine Kd.C_drew ?_))); (case side2 => exact (Kd.R_reads' HO_7.out).2.1); rintro e w31 ⟨v183, rfl, ho0, hb⟩; have n0_ := Aside0.mk (Kd.R_elder' (by (with_reducible repeat (first | apply Kd.R_alloc | apply Kd.R_drewN | apply Kd.R_drew)); exact HO_7.out) (Kd.R_base ho0) hb); have n1_ := Aside0.mk (Kd.R_lower (Kd.R_new' ho0 (Kd.R_lt (by (with_reducible repeat (first | apply Kd.R_alloc | apply Kd.R_drewN | apply Kd.R_drew)); exact HO_7.out))) (below_size (by repeat (first | (with_reducible first | exact HB.out | apply below_alloc | apply pw_below_drewN | apply below_drew1) | exact HB.out)))); have n2_ := Aside0.mk (below_step (by repeat (first | (with_reducible first | exact HB.out | apply below_alloc | apply pw_below_drewN | apply below_drew1) | exact HB.out)) hb); clear HO_7; clear HB; have HO_7 := n0_; have HO184 := n1_; have HB := n2_; clear n0_ n1_ n2_; (try clear hb); (try clear hb2); (try clear hk); (try clear hi); (try clear ho0)) | (go_at_call 16; (with_reducible refine (header_Norm.calls k1 _ _ l0 t185 _ ?side1 ?side2 A29.out).mono ?_); (case side1 => repeat (first | exact (Kd.C_below HR0.out HB.out) | (with_reducible refine Kd.C_alloc ?_ _) | (with_reducible refine Kd.C_drewN ?_ _) | (with_reducible refine Kd.C_drew ?_))); (case side2 => exact HC0.out); rintro e w32 ⟨v186, rfl, ho0, hb⟩; have n0_ := Aside0.mk (Kd.R_elder' (by (with_reducible repeat (first | apply Kd.R_alloc | apply Kd.R_drewN | apply Kd.R_drew)); exact HO_7.out) (Kd.R_base ho0) hb); have n1_ := Aside0.mk (Kd.R_elder' (by (with_reducible repeat (first | apply Kd.R_alloc | apply Kd.R_drewN | apply Kd.R_drew)); exact HO184.out) (Kd.R_base ho0) hb); have n2_ := Aside0.mk (Kd.R_lower (Kd.R_new' (Kd.R_new' ho0 (Kd.R_lt (by (with_reducible repeat (first | apply Kd.R_alloc | apply Kd.R_drewN | apply Kd.R_drew)); exact HO_7.out))) (Kd.R_lt (by (with_reducible repeat (first | apply Kd.R_alloc | apply Kd.R_drewN | apply Kd.R_drew)); exact HO184.out))) (below_size (by repeat (first | (with_reducible first | exact HB.out | apply below_alloc | apply pw_below_drewN | apply below_drew1) | exact HB.out)))); have n3_ := Aside0.mk (below_step (by repeat (first | (with_reducible first | exact HB.out | apply below_alloc | apply pw_below_drewN | apply below_drew1) | exact HB.out)) hb); clear HO_7; clear HO184; clear HB; have HO_7 := n0_; have HO184 := n1_; have HO187 := n2_; have HB := n3_; clear n0_ n1_ n2_ n3_; (try clear hb); (try clear hb2); (try clear hk); (try clear hi); (try clear ho0))))
     go_loopg [12, 13] k1 (fun kq v12 v13 w' => ∃ (x12_2 : Int) (x13_2 : Int), v12 = .int .i64 x12_2 ∧ v13 = .int .i64 x13_2 ∧ Aside0 (lockkeeperlaw15_CorsSeen.l1 kq a1 a2 x7_1 t182 t185 x12_2 x13_2 = some r) ∧ Aside0 (kq ≤ k1) ∧ Aside0 (Kd.R k35 35 w' w.heap.size (fun k_ => some k_ ≠ (v183 : Value).ownBlock ∧ some k_ ≠ (v186 : Value).ownBlock) (.slice Ao30 x7_1.length co30) x7_1) ∧ Aside0 (Kd.R k35 35 w' w.heap.size (fun k_ => some k_ ≠ ((.slice Ao30 x7_1.length co30) : Value).ownBlock ∧ some k_ ≠ (v186 : Value).ownBlock) v183 t182) ∧ Aside0 (Kd.R k35 35 w' w.heap.size (fun k_ => some k_ ≠ ((.slice Ao30 x7_1.length co30) : Value).ownBlock ∧ some k_ ≠ (v183 : Value).ownBlock) v186 t185) ∧ Aside0 (Below w.heap.size w w'))
     case atStart => exact ⟨(0), (0), (by first | rfl | (simp; done) | (simp [*]; done)), (by first | rfl | (simp; done) | (simp [*]; done)), H', ⟨Nat.le_refl _⟩, ⟨by (with_reducible repeat (first | apply Kd.R_alloc | apply Kd.R_drewN | apply Kd.R_drew)); exact Kd.R_mono HO_7.out (fun _ hk => ⟨hk.1.2, hk.2⟩)⟩, ⟨by (with_reducible repeat (first | apply Kd.R_alloc | apply Kd.R_drewN | apply Kd.R_drew)); exact Kd.R_mono HO184.out (fun _ hk => ⟨hk.1.2, hk.2⟩)⟩, ⟨by (with_reducible repeat (first | apply Kd.R_alloc | apply Kd.R_drewN | apply Kd.R_drew)); exact Kd.R_mono HO187.out (fun _ hk => ⟨hk.1.2, hk.2⟩)⟩, ⟨by repeat (first | (with_reducible first | exact HB.out | apply below_alloc | apply pw_below_drewN | apply below_drew1) | exact HB.out)⟩⟩
     case round =>
      clear H'
      try clear c1
      try clear p1
      try clear q1
      try clear hx1
      try clear c2
      try clear p2
      try clear c4
      try clear c5
      try clear p6
      try clear c8
      try clear c8b0
      try clear c10
      try clear c10b0
      try clear c12
      try clear c15
      try clear p16
      try clear q16
      try clear hx16
      try clear p17
      try clear q17
      try clear hx17
      try clear c18
      try clear c18b0
      try clear c19
      try clear c19b0
      try clear c20
      try clear c21
      try clear c22
      try clear c25
      try clear hx166_0
      try clear hx166_1
      try clear hx168_0
      try clear hx168_1
      try clear hx171_0
      try clear hx171_1
      try clear hx175_0
      try clear hx175_1
      try clear p1
      try clear p166
      try clear p168
      try clear p171
      try clear p175
      try clear p2
      try clear q1
      try clear q166
      try clear q168
      try clear q171
      try clear q175
      obtain ⟨x12_2, x13_2, rfl, rfl, HA, HK2, HO_7, HO_10, HO_11, HB⟩ := hrel
      cases gk with
      | zero => exact absurd HA.out (by simp [lockkeeperlaw15_CorsSeen.l1])
      | succ k2 =>
       have H := HA.out
       clear HA
       simp only [lockkeeperlaw15_CorsSeen.l1] at H
       by_cases c33 : x13_2 < (t185.length : Int)
       ·rw [if_pos c33] at H
        have c33b0 : decide (x13_2 < (t185.length : Int)) = true := decide_eq_true c33
        clear c33
        have HC34 := Aside0.mk H
        clear H
        obtain ⟨Ao35, co35, eo35⟩ := Kd.R_slice HO_11.out
        subst eo35
        go_upto_region 20 with (fail)
        repeat (go_quiet (fail); go_upto_region 20 with (fail))
        go_cut [82] (fun v82 wc => ∃ (kq : Nat) (x82_33 : Bool), v82 = .bool x82_33 ∧ Aside0 (lockkeeperlaw15_CorsSeen.j3 kq a1 a2 x7_1 t182 t185 x12_2 x13_2 x82_33 = some r) ∧ Aside0 (kq ≤ k2) ∧ Aside0 (Kd.R k35 35 wc w.heap.size (fun k_ => some k_ ≠ (v183 : Value).ownBlock ∧ some k_ ≠ ((.slice Ao35 t185.length co35) : Value).ownBlock) (.slice Ao30 x7_1.length co30) x7_1) ∧ Aside0 (Kd.R k35 35 wc w.heap.size (fun k_ => some k_ ≠ ((.slice Ao30 x7_1.length co30) : Value).ownBlock ∧ some k_ ≠ ((.slice Ao35 t185.length co35) : Value).ownBlock) v183 t182) ∧ Aside0 (Kd.R k35 35 wc w.heap.size (fun k_ => some k_ ≠ ((.slice Ao30 x7_1.length co30) : Value).ownBlock ∧ some k_ ≠ (v183 : Value).ownBlock) (.slice Ao35 t185.length co35) t185) ∧ Aside0 (Below w.heap.size w wc))
        case first =>
         have H := HC34.out
         clear HC34
         by_cases c36 : 0 ≤ x13_2
         ·rw [if_pos c36] at H
          have c36b0 : decide (0 ≤ x13_2) = true := decide_eq_true c36
          clear c36
          (first | rw [c36b0] | (simp only [i64_w, i32_w]; rw [c36b0]) | skip)
          by_cases c37 : ((rd_T35 t185 x13_2).f0).toList = ([115, 101, 116, 45, 99, 111, 111, 107, 105, 101] : List UInt8)
          ·rw [if_pos c37] at H
           have c37b0 : (((rd_T35 t185 x13_2).f0).toList == ([115, 101, 116, 45, 99, 111, 111, 107, 105, 101] : List UInt8)) = true := beq_iff_eq.mpr c37
           have c37b1 : (((rd_T35 t185 x13_2).f0).toList != ([115, 101, 116, 45, 99, 111, 111, 107, 105, 101] : List UInt8)) = false := bne_eq_false_iff_eq.mpr c37
           clear c37
           have H' := Aside0.mk H
           clear H
           have p188 : 0 ≤ (x13_2 : Int) := of_decide_eq_true (by first | (with_reducible assumption) | assumption)
           have q188 : x13_2 < (t185.length : Int) := of_decide_eq_true (by first | (with_reducible assumption) | assumption)
           obtain ⟨ad188, e188, hx188_0, hx188_1⟩ := at_T35 (Kd.R_reads' HO_11.out).2.2 x13_2 p188 q188
           cases e188
           replace p188 := eq_true p188
           replace q188 := eq_true q188
           go_wp2
           repeat (go_quiet (fail); try go_wp2)
           go_meet
           case rel => exact ⟨_, (true), (by first | rfl | (simp; done) | (simp [*]; done)), H', ⟨by have := HK1.out; have := HK2.out; first | omega | exact Nat.le_refl _⟩, ⟨by (with_reducible repeat (first | apply Kd.R_alloc | apply Kd.R_drewN | apply Kd.R_drew)); exact HO_7.out⟩, ⟨by (with_reducible repeat (first | apply Kd.R_alloc | apply Kd.R_drewN | apply Kd.R_drew)); exact HO_10.out⟩, ⟨by (with_reducible repeat (first | apply Kd.R_alloc | apply Kd.R_drewN | apply Kd.R_drew)); exact HO_11.out⟩, ⟨by repeat (first | (with_reducible first | exact HB.out | apply below_alloc | apply pw_below_drewN | apply below_drew1) | exact HB.out)⟩⟩
          ·rw [if_neg c37] at H
           have c37b0 : (((rd_T35 t185 x13_2).f0).toList == ([115, 101, 116, 45, 99, 111, 111, 107, 105, 101] : List UInt8)) = false := beq_eq_false_iff_ne.mpr c37
           have c37b1 : (((rd_T35 t185 x13_2).f0).toList != ([115, 101, 116, 45, 99, 111, 111, 107, 105, 101] : List UInt8)) = true := bne_iff_ne.mpr c37
           have H' := Aside0.mk H
           clear H
           have p188 : 0 ≤ (x13_2 : Int) := of_decide_eq_true (by first | (with_reducible assumption) | assumption)
           have q188 : x13_2 < (t185.length : Int) := of_decide_eq_true (by first | (with_reducible assumption) | assumption)
           obtain ⟨ad188, e188, hx188_0, hx188_1⟩ := at_T35 (Kd.R_reads' HO_11.out).2.2 x13_2 p188 q188
           cases e188
           replace p188 := eq_true p188
           replace q188 := eq_true q188
           have p189 : 0 ≤ (x13_2 : Int) := of_decide_eq_true (by first | (with_reducible assumption) | assumption)
           have q189 : x13_2 < (t185.length : Int) := of_decide_eq_true (by first | (with_reducible assumption) | assumption)
           obtain ⟨ad189, e189, hx189_0, hx189_1⟩ := at_T35 (Kd.R_reads' HO_11.out).2.2 x13_2 p189 q189
           obtain rfl : ad188 = ad189 := (by injection e189)
           replace p189 := eq_true p189
           replace q189 := eq_true q189
           go_wp2
           repeat (go_quiet (fail); try go_wp2)
           go_meet
           case rel => exact ⟨_, ((((rd_T35 t185 x13_2).f0).toList == ([115, 101, 116, 45, 99, 111, 111, 107, 105, 101, 50] : List UInt8))), (by first | rfl | (simp; done) | (simp [*]; done)), H', ⟨by have := HK1.out; have := HK2.out; first | omega | exact Nat.le_refl _⟩, ⟨by (with_reducible repeat (first | apply Kd.R_alloc | apply Kd.R_drewN | apply Kd.R_drew)); exact HO_7.out⟩, ⟨by (with_reducible repeat (first | apply Kd.R_alloc | apply Kd.R_drewN | apply Kd.R_drew)); exact HO_10.out⟩, ⟨by (with_reducible repeat (first | apply Kd.R_alloc | apply Kd.R_drewN | apply Kd.R_drew)); exact HO_11.out⟩, ⟨by repeat (first | (with_reducible first | exact HB.out | apply below_alloc | apply pw_below_drewN | apply below_drew1) | exact HB.out)⟩⟩
         ·rw [if_neg c36] at H
          exact absurd H (by simp)
        case rest =>
         clear HC34
         try clear c1
         try clear p1
         try clear q1
         try clear hx1
         try clear c2
         try clear p2
         try clear c3
         try clear c4
         try clear c5
         try clear p6
         try clear c8
         try clear c8b0
         try clear c10
         try clear c10b0
         try clear c12
         try clear c15
         try clear p16
         try clear q16
         try clear hx16
         try clear p17
         try clear q17
         try clear hx17
         try clear c18
         try clear c18b0
         try clear p18
         try clear q18
         try clear hx18
         try clear c19
         try clear c19b0
         try clear c20
         try clear c21
         try clear c22
         try clear c25
         try clear c33
         try clear c33b0
         try clear c36
         try clear c36b0
         try clear c37
         try clear c37b0
         try clear c37b1
         try clear hx166_0
         try clear hx166_1
         try clear hx168_0
         try clear hx168_1
         try clear hx171_0
         try clear hx171_1
         try clear hx175_0
         try clear hx175_1
         try clear hx188_0
         try clear hx188_1
         try clear hx189_0
         try clear hx189_1
         try clear p1
         try clear p16
         try clear p166
         try clear p168
         try clear p17
         try clear p171
         try clear p175
         try clear p188
         try clear p189
         try clear p2
         try clear p6
         try clear q1
         try clear q16
         try clear q166
         try clear q168
         try clear q17
         try clear q171
         try clear q175
         try clear q188
         try clear q189
         obtain ⟨kq, x82_33, rfl, HA, HJ33, HO_7, HO_10, HO_11, HB⟩ := hcut
         cases kq with
         | zero => exact absurd HA.out (by simp [lockkeeperlaw15_CorsSeen.j3])
         | succ kj33 =>
          have H := HA.out
          clear HA
          simp only [lockkeeperlaw15_CorsSeen.j3] at H
          by_cases c38 : x82_33 = true
          ·subst c38
           have H1 : (lockkeeperlaw15_CorsSeen.l1 kj33 a1 a2 x7_1 t182 t185 x12_2 (wrap64 (x13_2 + 1))) = some r := by rw [if_pos rfl] at H; exact H
           clear H
           have H := H1
           clear H1
           have H' := Aside0.mk H
           clear H
           go_wp2
           repeat (go_quiet (fail); try go_wp2)
           go_roundg kj33
           case measure => have := HK1.out; have := HK2.out; have := HJ33.out; omega
           case rel => exact ⟨(x12_2), (wrap64 (x13_2 + 1)), (by first | rfl | (simp; done) | (simp [*]; done)), (by first | rfl | (simp; done) | (simp [*]; done)), H', ⟨by have := HK1.out; have := HK2.out; have := HJ33.out; omega⟩, ⟨by (with_reducible repeat (first | apply Kd.R_alloc | apply Kd.R_drewN | apply Kd.R_drew)); exact HO_7.out⟩, ⟨by (with_reducible repeat (first | apply Kd.R_alloc | apply Kd.R_drewN | apply Kd.R_drew)); exact HO_10.out⟩, ⟨by (with_reducible repeat (first | apply Kd.R_alloc | apply Kd.R_drewN | apply Kd.R_drew)); exact HO_11.out⟩, ⟨by repeat (first | (with_reducible first | exact HB.out | apply below_alloc | apply pw_below_drewN | apply below_drew1) | exact HB.out)⟩⟩
          ·replace c38 := Bool.eq_false_iff.mpr c38
           subst c38
           have H1 : (if a2 = true then (lockkeeperlaw15_CorsSeen.j4 kj33 a1 a2 x7_1 t182 t185 x12_2 x13_2 a1) else (lockkeeperlaw15_CorsSeen.j4 kj33 a1 a2 x7_1 t182 t185 x12_2 x13_2 false)) = some r := by rw [if_neg (show ¬ (false = true) by decide)] at H; exact H
           clear H
           have H := H1
           clear H1
           have HC39 := Aside0.mk H
           clear H
           go_upto_region 21 with (fail)
           repeat (go_quiet (fail); go_upto_region 21 with (fail))
           go_cut [86] (fun v86 wc => ∃ (kq : Nat) (x86_38 : Bool), v86 = .bool x86_38 ∧ Aside0 (lockkeeperlaw15_CorsSeen.j4 kq a1 a2 x7_1 t182 t185 x12_2 x13_2 x86_38 = some r) ∧ Aside0 (kq ≤ kj33) ∧ Aside0 (Kd.R k35 35 wc w.heap.size (fun k_ => some k_ ≠ (v183 : Value).ownBlock ∧ some k_ ≠ ((.slice Ao35 t185.length co35) : Value).ownBlock) (.slice Ao30 x7_1.length co30) x7_1) ∧ Aside0 (Kd.R k35 35 wc w.heap.size (fun k_ => some k_ ≠ ((.slice Ao30 x7_1.length co30) : Value).ownBlock ∧ some k_ ≠ ((.slice Ao35 t185.length co35) : Value).ownBlock) v183 t182) ∧ Aside0 (Kd.R k35 35 wc w.heap.size (fun k_ => some k_ ≠ ((.slice Ao30 x7_1.length co30) : Value).ownBlock ∧ some k_ ≠ (v183 : Value).ownBlock) (.slice Ao35 t185.length co35) t185) ∧ Aside0 (Below w.heap.size w wc))
           case first =>
            have H := HC39.out
            clear HC39
            by_cases c40 : a2 = true
            ·subst c40
             have H1 : (lockkeeperlaw15_CorsSeen.j4 kj33 a1 true x7_1 t182 t185 x12_2 x13_2 a1) = some r := by rw [if_pos rfl] at H; exact H
             clear H
             have H := H1
             clear H1
             have H' := Aside0.mk H
             clear H
             go_wp2
             repeat (go_quiet (fail); try go_wp2)
             go_meet
             case rel => exact ⟨_, (a1), (by first | rfl | (simp; done) | (simp [*]; done)), H', ⟨by have := HK1.out; have := HK2.out; have := HJ33.out; first | omega | exact Nat.le_refl _⟩, ⟨by (with_reducible repeat (first | apply Kd.R_alloc | apply Kd.R_drewN | apply Kd.R_drew)); exact HO_7.out⟩, ⟨by (with_reducible repeat (first | apply Kd.R_alloc | apply Kd.R_drewN | apply Kd.R_drew)); exact HO_10.out⟩, ⟨by (with_reducible repeat (first | apply Kd.R_alloc | apply Kd.R_drewN | apply Kd.R_drew)); exact HO_11.out⟩, ⟨by repeat (first | (with_reducible first | exact HB.out | apply below_alloc | apply pw_below_drewN | apply below_drew1) | exact HB.out)⟩⟩
            ·replace c40 := Bool.eq_false_iff.mpr c40
             subst c40
             have H1 : (lockkeeperlaw15_CorsSeen.j4 kj33 a1 false x7_1 t182 t185 x12_2 x13_2 false) = some r := by rw [if_neg (show ¬ (false = true) by decide)] at H; exact H
             clear H
             have H := H1
             clear H1
             have H' := Aside0.mk H
             clear H
             go_wp2
             repeat (go_quiet (fail); try go_wp2)
             go_meet
             case rel => exact ⟨_, (false), (by first | rfl | (simp; done) | (simp [*]; done)), H', ⟨by have := HK1.out; have := HK2.out; have := HJ33.out; first | omega | exact Nat.le_refl _⟩, ⟨by (with_reducible repeat (first | apply Kd.R_alloc | apply Kd.R_drewN | apply Kd.R_drew)); exact HO_7.out⟩, ⟨by (with_reducible repeat (first | apply Kd.R_alloc | apply Kd.R_drewN | apply Kd.R_drew)); exact HO_10.out⟩, ⟨by (with_reducible repeat (first | apply Kd.R_alloc | apply Kd.R_drewN | apply Kd.R_drew)); exact HO_11.out⟩, ⟨by repeat (first | (with_reducible first | exact HB.out | apply below_alloc | apply pw_below_drewN | apply below_drew1) | exact HB.out)⟩⟩
           case rest =>
            clear HC39
            try clear c1
            try clear p1
            try clear q1
            try clear hx1
            try clear c2
            try clear p2
            try clear c3
            try clear c4
            try clear c5
            try clear p6
            try clear c8
            try clear c8b0
            try clear c10
            try clear c10b0
            try clear c12
            try clear c15
            try clear p16
            try clear q16
            try clear hx16
            try clear p17
            try clear q17
            try clear hx17
            try clear c18
            try clear c18b0
            try clear p18
            try clear q18
            try clear hx18
            try clear c19
            try clear c19b0
            try clear c20
            try clear c21
            try clear c22
            try clear c25
            try clear c33
            try clear c33b0
            try clear c36
            try clear c36b0
            try clear c37
            try clear c37b0
            try clear c37b1
            try clear c38
            try clear c40
            try clear hx166_0
            try clear hx166_1
            try clear hx168_0
            try clear hx168_1
            try clear hx171_0
            try clear hx171_1
            try clear hx175_0
            try clear hx175_1
            try clear hx188_0
            try clear hx188_1
            try clear hx189_0
            try clear hx189_1
            try clear p1
            try clear p16
            try clear p166
            try clear p168
            try clear p17
            try clear p171
            try clear p175
            try clear p18
            try clear p188
            try clear p189
            try clear p2
            try clear p6
            try clear q1
            try clear q16
            try clear q166
            try clear q168
            try clear q17
            try clear q171
            try clear q175
            try clear q18
            try clear q188
            try clear q189
            obtain ⟨kq, x86_38, rfl, HA, HJ38, HO_7, HO_10, HO_11, HB⟩ := hcut
            cases kq with
            | zero => exact absurd HA.out (by simp [lockkeeperlaw15_CorsSeen.j4])
            | succ kj38 =>
             have H := HA.out
             clear HA
             simp only [lockkeeperlaw15_CorsSeen.j4] at H
             by_cases c41 : x86_38 = true
             ·subst c41
              have H1 : (lockkeeperlaw15_CorsSeen.l1 kj38 a1 a2 x7_1 t182 t185 x12_2 (wrap64 (x13_2 + 1))) = some r := by rw [if_pos rfl] at H; exact H
              clear H
              have H := H1
              clear H1
              have H' := Aside0.mk H
              clear H
              go_wp2
              repeat (go_quiet (fail); try go_wp2)
              go_roundg kj38
              case measure => have := HK1.out; have := HK2.out; have := HJ33.out; have := HJ38.out; omega
              case rel => exact ⟨(x12_2), (wrap64 (x13_2 + 1)), (by first | rfl | (simp; done) | (simp [*]; done)), (by first | rfl | (simp; done) | (simp [*]; done)), H', ⟨by have := HK1.out; have := HK2.out; have := HJ33.out; have := HJ38.out; omega⟩, ⟨by (with_reducible repeat (first | apply Kd.R_alloc | apply Kd.R_drewN | apply Kd.R_drew)); exact HO_7.out⟩, ⟨by (with_reducible repeat (first | apply Kd.R_alloc | apply Kd.R_drewN | apply Kd.R_drew)); exact HO_10.out⟩, ⟨by (with_reducible repeat (first | apply Kd.R_alloc | apply Kd.R_drewN | apply Kd.R_drew)); exact HO_11.out⟩, ⟨by repeat (first | (with_reducible first | exact HB.out | apply below_alloc | apply pw_below_drewN | apply below_drew1) | exact HB.out)⟩⟩
             ·replace c41 := Bool.eq_false_iff.mpr c41
              subst c41
              have H1 : (lockkeeperlaw15_CorsSeen.l2 kj38 a1 a2 x7_1 t182 t185 x12_2 x13_2) = some r := by rw [if_neg (show ¬ (false = true) by decide)] at H; exact H
              clear H
              have H := H1
              clear H1
              have H' := Aside0.mk H
              clear H
              go_wp2
              repeat (go_quiet (fail); try go_wp2)
              go_loopg [12] kj38 (fun kq v12 w' => ∃ (x12_5 : Int), v12 = .int .i64 x12_5 ∧ Aside0 (lockkeeperlaw15_CorsSeen.l2 kq a1 a2 x7_1 t182 t185 x12_5 x13_2 = some r) ∧ Aside0 (kq ≤ kj38) ∧ Aside0 (Kd.R k35 35 w' w.heap.size (fun k_ => some k_ ≠ (v183 : Value).ownBlock ∧ some k_ ≠ ((.slice Ao35 t185.length co35) : Value).ownBlock) (.slice Ao30 x7_1.length co30) x7_1) ∧ Aside0 (Kd.R k35 35 w' w.heap.size (fun k_ => some k_ ≠ ((.slice Ao30 x7_1.length co30) : Value).ownBlock ∧ some k_ ≠ ((.slice Ao35 t185.length co35) : Value).ownBlock) v183 t182) ∧ Aside0 (Kd.R k35 35 w' w.heap.size (fun k_ => some k_ ≠ ((.slice Ao30 x7_1.length co30) : Value).ownBlock ∧ some k_ ≠ (v183 : Value).ownBlock) (.slice Ao35 t185.length co35) t185) ∧ Aside0 (Below w.heap.size w w'))
              case atStart => exact ⟨(x12_2), (by first | rfl | (simp; done) | (simp [*]; done)), H', ⟨Nat.le_refl _⟩, ⟨by (with_reducible repeat (first | apply Kd.R_alloc | apply Kd.R_drewN | apply Kd.R_drew)); exact HO_7.out⟩, ⟨by (with_reducible repeat (first | apply Kd.R_alloc | apply Kd.R_drewN | apply Kd.R_drew)); exact HO_10.out⟩, ⟨by (with_reducible repeat (first | apply Kd.R_alloc | apply Kd.R_drewN | apply Kd.R_drew)); exact HO_11.out⟩, ⟨by repeat (first | (with_reducible first | exact HB.out | apply below_alloc | apply pw_below_drewN | apply below_drew1) | exact HB.out)⟩⟩
              case round =>
               clear H'
               try clear c1
               try clear p1
               try clear q1
               try clear hx1
               try clear c2
               try clear p2
               try clear c3
               try clear c4
               try clear c5
               try clear p6
               try clear c8
               try clear c8b0
               try clear c10
               try clear c10b0
               try clear c12
               try clear c15
               try clear p16
               try clear q16
               try clear hx16
               try clear p17
               try clear q17
               try clear hx17
               try clear c18
               try clear c18b0
               try clear p18
               try clear q18
               try clear hx18
               try clear c19
               try clear c19b0
               try clear c20
               try clear c21
               try clear c22
               try clear c25
               try clear c33
               try clear c33b0
               try clear c36
               try clear c36b0
               try clear c37
               try clear c37b0
               try clear c37b1
               try clear c38
               try clear c40
               try clear c41
               try clear hx166_0
               try clear hx166_1
               try clear hx168_0
               try clear hx168_1
               try clear hx171_0
               try clear hx171_1
               try clear hx175_0
               try clear hx175_1
               try clear hx188_0
               try clear hx188_1
               try clear hx189_0
               try clear hx189_1
               try clear p1
               try clear p16
               try clear p166
               try clear p168
               try clear p17
               try clear p171
               try clear p175
               try clear p18
               try clear p188
               try clear p189
               try clear p2
               try clear p6
               try clear q1
               try clear q16
               try clear q166
               try clear q168
               try clear q17
               try clear q171
               try clear q175
               try clear q18
               try clear q188
               try clear q189
               obtain ⟨x12_5, rfl, HA, HK5, HO_7, HO_10, HO_11, HB⟩ := hrel
               cases gk with
               | zero => exact absurd HA.out (by simp [lockkeeperlaw15_CorsSeen.l2])
               | succ k5 =>
                have H := HA.out
                clear HA
                simp only [lockkeeperlaw15_CorsSeen.l2] at H
                by_cases c42 : x12_5 < (t182.length : Int)
                ·rw [if_pos c42] at H
                 have c42b0 : decide (x12_5 < (t182.length : Int)) = true := decide_eq_true c42
                 clear c42
                 by_cases c43 : 0 ≤ x12_5
                 ·rw [if_pos c43] at H
                  have c43b0 : decide (0 ≤ x12_5) = true := decide_eq_true c43
                  clear c43
                  by_cases c44 : ((rd_T35 t182 x12_5).f0).toList = ([97, 99, 99, 101, 115, 115, 45, 99, 111, 110, 116, 114, 111, 108, 45, 101, 120, 112, 111, 115, 101, 45, 104, 101, 97, 100, 101, 114, 115] : List UInt8)
                  ·rw [if_pos c44] at H
                   have c44b0 : (((rd_T35 t182 x12_5).f0).toList == ([97, 99, 99, 101, 115, 115, 45, 99, 111, 110, 116, 114, 111, 108, 45, 101, 120, 112, 111, 115, 101, 45, 104, 101, 97, 100, 101, 114, 115] : List UInt8)) = true := beq_iff_eq.mpr c44
                   have c44b1 : (((rd_T35 t182 x12_5).f0).toList != ([97, 99, 99, 101, 115, 115, 45, 99, 111, 110, 116, 114, 111, 108, 45, 101, 120, 112, 111, 115, 101, 45, 104, 101, 97, 100, 101, 114, 115] : List UInt8)) = false := bne_eq_false_iff_eq.mpr c44
                   clear c44
                   by_cases c45 : 0 ≤ x13_2
                   ·rw [if_pos c45] at H
                    have c45b0 : decide (0 ≤ x13_2) = true := decide_eq_true c45
                    clear c45
                    by_cases c46 : x13_2 < (t185.length : Int)
                    ·rw [if_pos c46] at H
                     have c46b0 : decide (x13_2 < (t185.length : Int)) = true := decide_eq_true c46
                     clear c46
                     by_cases c47 : (!((((rd_T35 t182 x12_5).f0).toList) == (((rd_T35 t185 x13_2).f0).toList)) || (!((((rd_T35 t182 x12_5).f1).toList) == (((rd_T35 t185 x13_2).f1).toList)))) = true
                     ·rw [if_pos c47] at H
                      have c47b0 : (!((((rd_T35 t182 x12_5).f0).toList) == (((rd_T35 t185 x13_2).f0).toList)) || (!((((rd_T35 t182 x12_5).f1).toList) == (((rd_T35 t185 x13_2).f1).toList)))) = true := c47
                      clear c47
                      have H' := Aside0.mk H
                      clear H
                      obtain ⟨Ao48, co48, eo48⟩ := Kd.R_slice HO_10.out
                      subst eo48
                      have p190 : 0 ≤ (x12_5 : Int) := of_decide_eq_true (by first | (with_reducible assumption) | assumption)
                      have q190 : x12_5 < (t182.length : Int) := of_decide_eq_true (by first | (with_reducible assumption) | assumption)
                      obtain ⟨ad190, e190, hx190_0, hx190_1⟩ := at_T35 (Kd.R_reads' HO_10.out).2.2 x12_5 p190 q190
                      cases e190
                      replace p190 := eq_true p190
                      replace q190 := eq_true q190
                      have p191 : 0 ≤ (x12_5 : Int) := of_decide_eq_true (by first | (with_reducible assumption) | assumption)
                      have q191 : x12_5 < (t182.length : Int) := of_decide_eq_true (by first | (with_reducible assumption) | assumption)
                      obtain ⟨ad191, e191, hx191_0, hx191_1⟩ := at_T35 (Kd.R_reads' HO_10.out).2.2 x12_5 p191 q191
                      obtain rfl : ad190 = ad191 := (by injection e191)
                      replace p191 := eq_true p191
                      replace q191 := eq_true q191
                      have p192 : 0 ≤ (x13_2 : Int) := of_decide_eq_true (by first | (with_reducible assumption) | assumption)
                      have q192 : x13_2 < (t185.length : Int) := of_decide_eq_true (by first | (with_reducible assumption) | assumption)
                      obtain ⟨ad192, e192, hx192_0, hx192_1⟩ := at_T35 (Kd.R_reads' HO_11.out).2.2 x13_2 p192 q192
                      cases e192
                      replace p192 := eq_true p192
                      replace q192 := eq_true q192
                      go_wp2
                      repeat (go_quiet (fail); try go_wp2)
                      go_roundg k5
                      case measure => have := HK1.out; have := HK2.out; have := HJ33.out; have := HJ38.out; have := HK5.out; omega
                      case rel => exact ⟨(wrap64 (x12_5 + 1)), (by first | rfl | (simp; done) | (simp [*]; done)), H', ⟨by have := HK1.out; have := HK2.out; have := HJ33.out; have := HJ38.out; have := HK5.out; omega⟩, ⟨by (with_reducible repeat (first | apply Kd.R_alloc | apply Kd.R_drewN | apply Kd.R_drew)); exact HO_7.out⟩, ⟨by (with_reducible repeat (first | apply Kd.R_alloc | apply Kd.R_drewN | apply Kd.R_drew)); exact HO_10.out⟩, ⟨by (with_reducible repeat (first | apply Kd.R_alloc | apply Kd.R_drewN | apply Kd.R_drew)); exact HO_11.out⟩, ⟨by repeat (first | (with_reducible first | exact HB.out | apply below_alloc | apply pw_below_drewN | apply below_drew1) | exact HB.out)⟩⟩
                     ·rw [if_neg c47] at H
                      have c47b0 : (!((((rd_T35 t182 x12_5).f0).toList) == (((rd_T35 t185 x13_2).f0).toList)) || (!((((rd_T35 t182 x12_5).f1).toList) == (((rd_T35 t185 x13_2).f1).toList)))) = false := by simpa using c47
                      clear c47
                      by_cases c49 : x12_5 = (t182.length : Int)
                      ·rw [if_pos c49] at H
                       have c49b0 : (x12_5 == (t182.length : Int)) = true := beq_iff_eq.mpr c49
                       have c49b1 : (x12_5 != (t182.length : Int)) = false := bne_eq_false_iff_eq.mpr c49
                       clear c49
                       clear hr_
                       obtain rfl := Option.some.inj H
                       obtain ⟨Ao50, co50, eo50⟩ := Kd.R_slice HO_10.out
                       subst eo50
                       have p190 : 0 ≤ (x12_5 : Int) := of_decide_eq_true (by first | (with_reducible assumption) | assumption)
                       have q190 : x12_5 < (t182.length : Int) := of_decide_eq_true (by first | (with_reducible assumption) | assumption)
                       obtain ⟨ad190, e190, hx190_0, hx190_1⟩ := at_T35 (Kd.R_reads' HO_10.out).2.2 x12_5 p190 q190
                       cases e190
                       replace p190 := eq_true p190
                       replace q190 := eq_true q190
                       have p191 : 0 ≤ (x12_5 : Int) := of_decide_eq_true (by first | (with_reducible assumption) | assumption)
                       have q191 : x12_5 < (t182.length : Int) := of_decide_eq_true (by first | (with_reducible assumption) | assumption)
                       obtain ⟨ad191, e191, hx191_0, hx191_1⟩ := at_T35 (Kd.R_reads' HO_10.out).2.2 x12_5 p191 q191
                       obtain rfl : ad190 = ad191 := (by injection e191)
                       replace p191 := eq_true p191
                       replace q191 := eq_true q191
                       have p192 : 0 ≤ (x13_2 : Int) := of_decide_eq_true (by first | (with_reducible assumption) | assumption)
                       have q192 : x13_2 < (t185.length : Int) := of_decide_eq_true (by first | (with_reducible assumption) | assumption)
                       obtain ⟨ad192, e192, hx192_0, hx192_1⟩ := at_T35 (Kd.R_reads' HO_11.out).2.2 x13_2 p192 q192
                       cases e192
                       replace p192 := eq_true p192
                       replace q192 := eq_true q192
                       go_wp2
                       repeat (go_quiet (fail); try go_wp2)
                       go_ret
                       exact ⟨by first | rfl | (simp [errW_none, errW_some] <;> rfl) | (simp [*, errW_none, errW_some] <;> rfl), by repeat (first | (with_reducible first | exact HB.out | apply below_alloc | apply pw_below_drewN | apply below_drew1) | exact HB.out)⟩
                      ·rw [if_neg c49] at H
                       have c49b0 : (x12_5 == (t182.length : Int)) = false := beq_eq_false_iff_ne.mpr c49
                       have c49b1 : (x12_5 != (t182.length : Int)) = true := bne_iff_ne.mpr c49
                       have H' := Aside0.mk H
                       clear H
                       obtain ⟨Ao51, co51, eo51⟩ := Kd.R_slice HO_10.out
                       subst eo51
                       have p190 : 0 ≤ (x12_5 : Int) := of_decide_eq_true (by first | (with_reducible assumption) | assumption)
                       have q190 : x12_5 < (t182.length : Int) := of_decide_eq_true (by first | (with_reducible assumption) | assumption)
                       obtain ⟨ad190, e190, hx190_0, hx190_1⟩ := at_T35 (Kd.R_reads' HO_10.out).2.2 x12_5 p190 q190
                       cases e190
                       replace p190 := eq_true p190
                       replace q190 := eq_true q190
                       have p191 : 0 ≤ (x12_5 : Int) := of_decide_eq_true (by first | (with_reducible assumption) | assumption)
                       have q191 : x12_5 < (t182.length : Int) := of_decide_eq_true (by first | (with_reducible assumption) | assumption)
                       obtain ⟨ad191, e191, hx191_0, hx191_1⟩ := at_T35 (Kd.R_reads' HO_10.out).2.2 x12_5 p191 q191
                       obtain rfl : ad190 = ad191 := (by injection e191)
                       replace p191 := eq_true p191
                       replace q191 := eq_true q191
                       have p192 : 0 ≤ (x13_2 : Int) := of_decide_eq_true (by first | (with_reducible assumption) | assumption)
                       have q192 : x13_2 < (t185.length : Int) := of_decide_eq_true (by first | (with_reducible assumption) | assumption)
                       obtain ⟨ad192, e192, hx192_0, hx192_1⟩ := at_T35 (Kd.R_reads' HO_11.out).2.2 x13_2 p192 q192
                       cases e192
                       replace p192 := eq_true p192
                       replace q192 := eq_true q192
                       have p193 : 0 ≤ (x12_5 : Int) := of_decide_eq_true (by first | (with_reducible assumption) | assumption)
                       have q193 : x12_5 < (t182.length : Int) := of_decide_eq_true (by first | (with_reducible assumption) | assumption)
                       obtain ⟨ad193, e193, hx193_0, hx193_1⟩ := at_T35 (Kd.R_reads' HO_10.out).2.2 x12_5 p193 q193
                       obtain rfl : ad190 = ad193 := (by injection e193)
                       replace p193 := eq_true p193
                       replace q193 := eq_true q193
                       have p194 : 0 ≤ (x13_2 : Int) := of_decide_eq_true (by first | (with_reducible assumption) | assumption)
                       have q194 : x13_2 < (t185.length : Int) := of_decide_eq_true (by first | (with_reducible assumption) | assumption)
                       obtain ⟨ad194, e194, hx194_0, hx194_1⟩ := at_T35 (Kd.R_reads' HO_11.out).2.2 x13_2 p194 q194
                       obtain rfl : ad192 = ad194 := (by injection e194)
                       replace p194 := eq_true p194
                       replace q194 := eq_true q194
                       go_wp2
                       repeat (go_quiet (fail); try go_wp2)
                       go_roundg k5
                       case measure => have := HK1.out; have := HK2.out; have := HJ33.out; have := HJ38.out; have := HK5.out; omega
                       case rel => exact ⟨(wrap64 (x12_5 + 1)), (wrap64 (x13_2 + 1)), (by first | rfl | (simp; done) | (simp [*]; done)), (by first | rfl | (simp; done) | (simp [*]; done)), H', ⟨by have := HK1.out; have := HK2.out; have := HJ33.out; have := HJ38.out; have := HK5.out; omega⟩, ⟨by (with_reducible repeat (first | apply Kd.R_alloc | apply Kd.R_drewN | apply Kd.R_drew)); exact HO_7.out⟩, ⟨by (with_reducible repeat (first | apply Kd.R_alloc | apply Kd.R_drewN | apply Kd.R_drew)); exact HO_10.out⟩, ⟨by (with_reducible repeat (first | apply Kd.R_alloc | apply Kd.R_drewN | apply Kd.R_drew)); exact HO_11.out⟩, ⟨by repeat (first | (with_reducible first | exact HB.out | apply below_alloc | apply pw_below_drewN | apply below_drew1) | exact HB.out)⟩⟩
                    ·rw [if_neg c46] at H
                     exact absurd H (by simp)
                   ·rw [if_neg c45] at H
                    exact absurd H (by simp)
                  ·rw [if_neg c44] at H
                   have c44b0 : (((rd_T35 t182 x12_5).f0).toList == ([97, 99, 99, 101, 115, 115, 45, 99, 111, 110, 116, 114, 111, 108, 45, 101, 120, 112, 111, 115, 101, 45, 104, 101, 97, 100, 101, 114, 115] : List UInt8)) = false := beq_eq_false_iff_ne.mpr c44
                   have c44b1 : (((rd_T35 t182 x12_5).f0).toList != ([97, 99, 99, 101, 115, 115, 45, 99, 111, 110, 116, 114, 111, 108, 45, 101, 120, 112, 111, 115, 101, 45, 104, 101, 97, 100, 101, 114, 115] : List UInt8)) = true := bne_iff_ne.mpr c44
                   by_cases c52 : x12_5 = (t182.length : Int)
                   ·rw [if_pos c52] at H
                    have c52b0 : (x12_5 == (t182.length : Int)) = true := beq_iff_eq.mpr c52
                    have c52b1 : (x12_5 != (t182.length : Int)) = false := bne_eq_false_iff_eq.mpr c52
                    clear c52
                    clear hr_
                    obtain rfl := Option.some.inj H
                    obtain ⟨Ao53, co53, eo53⟩ := Kd.R_slice HO_10.out
                    subst eo53
                    have p190 : 0 ≤ (x12_5 : Int) := of_decide_eq_true (by first | (with_reducible assumption) | assumption)
                    have q190 : x12_5 < (t182.length : Int) := of_decide_eq_true (by first | (with_reducible assumption) | assumption)
                    obtain ⟨ad190, e190, hx190_0, hx190_1⟩ := at_T35 (Kd.R_reads' HO_10.out).2.2 x12_5 p190 q190
                    cases e190
                    replace p190 := eq_true p190
                    replace q190 := eq_true q190
                    go_wp2
                    repeat (go_quiet (fail); try go_wp2)
                    go_ret
                    exact ⟨by first | rfl | (simp [errW_none, errW_some] <;> rfl) | (simp [*, errW_none, errW_some] <;> rfl), by repeat (first | (with_reducible first | exact HB.out | apply below_alloc | apply pw_below_drewN | apply below_drew1) | exact HB.out)⟩
                   ·rw [if_neg c52] at H
                    have c52b0 : (x12_5 == (t182.length : Int)) = false := beq_eq_false_iff_ne.mpr c52
                    have c52b1 : (x12_5 != (t182.length : Int)) = true := bne_iff_ne.mpr c52
                    by_cases c54 : 0 ≤ x13_2
                    ·rw [if_pos c54] at H
                     have c54b0 : decide (0 ≤ x13_2) = true := decide_eq_true c54
                     clear c54
                     by_cases c55 : x13_2 < (t185.length : Int)
                     ·rw [if_pos c55] at H
                      have c55b0 : decide (x13_2 < (t185.length : Int)) = true := decide_eq_true c55
                      clear c55
                      by_cases c56 : (!((((rd_T35 t182 x12_5).f0).toList) == (((rd_T35 t185 x13_2).f0).toList)) || (!((((rd_T35 t182 x12_5).f1).toList) == (((rd_T35 t185 x13_2).f1).toList)))) = true
                      ·rw [if_pos c56] at H
                       have c56b0 : (!((((rd_T35 t182 x12_5).f0).toList) == (((rd_T35 t185 x13_2).f0).toList)) || (!((((rd_T35 t182 x12_5).f1).toList) == (((rd_T35 t185 x13_2).f1).toList)))) = true := c56
                       clear c56
                       clear hr_
                       obtain rfl := Option.some.inj H
                       obtain ⟨Ao57, co57, eo57⟩ := Kd.R_slice HO_10.out
                       subst eo57
                       have p190 : 0 ≤ (x12_5 : Int) := of_decide_eq_true (by first | (with_reducible assumption) | assumption)
                       have q190 : x12_5 < (t182.length : Int) := of_decide_eq_true (by first | (with_reducible assumption) | assumption)
                       obtain ⟨ad190, e190, hx190_0, hx190_1⟩ := at_T35 (Kd.R_reads' HO_10.out).2.2 x12_5 p190 q190
                       cases e190
                       replace p190 := eq_true p190
                       replace q190 := eq_true q190
                       have p195 : 0 ≤ (x12_5 : Int) := of_decide_eq_true (by first | (with_reducible assumption) | assumption)
                       have q195 : x12_5 < (t182.length : Int) := of_decide_eq_true (by first | (with_reducible assumption) | assumption)
                       obtain ⟨ad195, e195, hx195_0, hx195_1⟩ := at_T35 (Kd.R_reads' HO_10.out).2.2 x12_5 p195 q195
                       obtain rfl : ad190 = ad195 := (by injection e195)
                       replace p195 := eq_true p195
                       replace q195 := eq_true q195
                       have p196 : 0 ≤ (x13_2 : Int) := of_decide_eq_true (by first | (with_reducible assumption) | assumption)
                       have q196 : x13_2 < (t185.length : Int) := of_decide_eq_true (by first | (with_reducible assumption) | assumption)
                       obtain ⟨ad196, e196, hx196_0, hx196_1⟩ := at_T35 (Kd.R_reads' HO_11.out).2.2 x13_2 p196 q196
                       cases e196
                       replace p196 := eq_true p196
                       replace q196 := eq_true q196
                       go_wp2
                       repeat (go_quiet (fail); try go_wp2)
                       go_ret
                       exact ⟨by first | rfl | (simp [errW_none, errW_some] <;> rfl) | (simp [*, errW_none, errW_some] <;> rfl), by repeat (first | (with_reducible first | exact HB.out | apply below_alloc | apply pw_below_drewN | apply below_drew1) | exact HB.out)⟩
                      ·rw [if_neg c56] at H
                       have c56b0 : (!((((rd_T35 t182 x12_5).f0).toList) == (((rd_T35 t185 x13_2).f0).toList)) || (!((((rd_T35 t182 x12_5).f1).toList) == (((rd_T35 t185 x13_2).f1).toList)))) = false := by simpa using c56
                       clear c56
                       have H' := Aside0.mk H
                       clear H
                       obtain ⟨Ao58, co58, eo58⟩ := Kd.R_slice HO_10.out
                       subst eo58
                       have p190 : 0 ≤ (x12_5 : Int) := of_decide_eq_true (by first | (with_reducible assumption) | assumption)
                       have q190 : x12_5 < (t182.length : Int) := of_decide_eq_true (by first | (with_reducible assumption) | assumption)
                       obtain ⟨ad190, e190, hx190_0, hx190_1⟩ := at_T35 (Kd.R_reads' HO_10.out).2.2 x12_5 p190 q190
                       cases e190
                       replace p190 := eq_true p190
                       replace q190 := eq_true q190
                       have p195 : 0 ≤ (x12_5 : Int) := of_decide_eq_true (by first | (with_reducible assumption) | assumption)
                       have q195 : x12_5 < (t182.length : Int) := of_decide_eq_true (by first | (with_reducible assumption) | assumption)
                       obtain ⟨ad195, e195, hx195_0, hx195_1⟩ := at_T35 (Kd.R_reads' HO_10.out).2.2 x12_5 p195 q195
                       obtain rfl : ad190 = ad195 := (by injection e195)
                       replace p195 := eq_true p195
                       replace q195 := eq_true q195
                       have p196 : 0 ≤ (x13_2 : Int) := of_decide_eq_true (by first | (with_reducible assumption) | assumption)
                       have q196 : x13_2 < (t185.length : Int) := of_decide_eq_true (by first | (with_reducible assumption) | assumption)
                       obtain ⟨ad196, e196, hx196_0, hx196_1⟩ := at_T35 (Kd.R_reads' HO_11.out).2.2 x13_2 p196 q196
                       cases e196
                       replace p196 := eq_true p196
                       replace q196 := eq_true q196
                       go_wp2
                       repeat (go_quiet (fail); try go_wp2)
                       go_roundg k5
                       case measure => have := HK1.out; have := HK2.out; have := HJ33.out; have := HJ38.out; have := HK5.out; omega
                       case rel => exact ⟨(wrap64 (x12_5 + 1)), (wrap64 (x13_2 + 1)), (by first | rfl | (simp; done) | (simp [*]; done)), (by first | rfl | (simp; done) | (simp [*]; done)), H', ⟨by have := HK1.out; have := HK2.out; have := HJ33.out; have := HJ38.out; have := HK5.out; omega⟩, ⟨by (with_reducible repeat (first | apply Kd.R_alloc | apply Kd.R_drewN | apply Kd.R_drew)); exact HO_7.out⟩, ⟨by (with_reducible repeat (first | apply Kd.R_alloc | apply Kd.R_drewN | apply Kd.R_drew)); exact HO_10.out⟩, ⟨by (with_reducible repeat (first | apply Kd.R_alloc | apply Kd.R_drewN | apply Kd.R_drew)); exact HO_11.out⟩, ⟨by repeat (first | (with_reducible first | exact HB.out | apply below_alloc | apply pw_below_drewN | apply below_drew1) | exact HB.out)⟩⟩
                     ·rw [if_neg c55] at H
                      exact absurd H (by simp)
                    ·rw [if_neg c54] at H
                     exact absurd H (by simp)
                 ·rw [if_neg c43] at H
                  exact absurd H (by simp)
                ·rw [if_neg c42] at H
                 have c42b0 : decide (x12_5 < (t182.length : Int)) = false := decide_eq_false c42
                 clear c42
                 by_cases c59 : x12_5 = (t182.length : Int)
                 ·rw [if_pos c59] at H
                  have c59b0 : (x12_5 == (t182.length : Int)) = true := beq_iff_eq.mpr c59
                  have c59b1 : (x12_5 != (t182.length : Int)) = false := bne_eq_false_iff_eq.mpr c59
                  clear c59
                  clear hr_
                  obtain rfl := Option.some.inj H
                  obtain ⟨Ao60, co60, eo60⟩ := Kd.R_slice HO_10.out
                  subst eo60
                  go_wp2
                  repeat (go_quiet (fail); try go_wp2)
                  go_ret
                  exact ⟨by first | rfl | (simp [errW_none, errW_some] <;> rfl) | (simp [*, errW_none, errW_some] <;> rfl), by repeat (first | (with_reducible first | exact HB.out | apply below_alloc | apply pw_below_drewN | apply below_drew1) | exact HB.out)⟩
                 ·rw [if_neg c59] at H
                  have c59b0 : (x12_5 == (t182.length : Int)) = false := beq_eq_false_iff_ne.mpr c59
                  have c59b1 : (x12_5 != (t182.length : Int)) = true := bne_iff_ne.mpr c59
                  by_cases c61 : 0 ≤ x12_5
                  ·rw [if_pos c61] at H
                   exact absurd H (by simp)
                  ·rw [if_neg c61] at H
                   exact absurd H (by simp)
       ·rw [if_neg c33] at H
        have c33b0 : decide (x13_2 < (t185.length : Int)) = false := decide_eq_false c33
        clear c33
        have H' := Aside0.mk H
        clear H
        obtain ⟨Ao62, co62, eo62⟩ := Kd.R_slice HO_11.out
        subst eo62
        go_wp2
        repeat (go_quiet (fail); try go_wp2)
        go_loopg [14] k2 (fun kq v14 w' => ∃ (x14_3 : Int), v14 = .int .i64 x14_3 ∧ Aside0 (lockkeeperlaw15_CorsSeen.l3 kq x7_1 t182 x14_3 = some r) ∧ Aside0 (kq ≤ k2) ∧ Aside0 (Kd.R k35 35 w' w.heap.size (fun k_ => some k_ ≠ (v183 : Value).ownBlock) (.slice Ao30 x7_1.length co30) x7_1) ∧ Aside0 (Kd.R k35 35 w' w.heap.size (fun k_ => some k_ ≠ ((.slice Ao30 x7_1.length co30) : Value).ownBlock) v183 t182) ∧ Aside0 (Below w.heap.size w w'))
        case atStart => exact ⟨(0), (by first | rfl | (simp; done) | (simp [*]; done)), H', ⟨Nat.le_refl _⟩, ⟨by (with_reducible repeat (first | apply Kd.R_alloc | apply Kd.R_drewN | apply Kd.R_drew)); exact Kd.R_mono HO_7.out (fun _ hk => hk.1)⟩, ⟨by (with_reducible repeat (first | apply Kd.R_alloc | apply Kd.R_drewN | apply Kd.R_drew)); exact Kd.R_mono HO_10.out (fun _ hk => hk.1)⟩, ⟨by repeat (first | (with_reducible first | exact HB.out | apply below_alloc | apply pw_below_drewN | apply below_drew1) | exact HB.out)⟩⟩
        case round =>
         clear H'
         try clear c1
         try clear p1
         try clear q1
         try clear hx1
         try clear c2
         try clear p2
         try clear c3
         try clear c4
         try clear c5
         try clear c6
         try clear p6
         try clear c8
         try clear c8b0
         try clear c10
         try clear c10b0
         try clear c12
         try clear c15
         try clear p16
         try clear q16
         try clear hx16
         try clear p17
         try clear q17
         try clear hx17
         try clear c18
         try clear c18b0
         try clear p18
         try clear q18
         try clear hx18
         try clear c19
         try clear c19b0
         try clear p19
         try clear q19
         try clear hx19
         try clear c20
         try clear c21
         try clear c22
         try clear c25
         try clear c33
         try clear c33b0
         try clear c36
         try clear c36b0
         try clear c37
         try clear c37b0
         try clear c37b1
         try clear c38
         try clear c40
         try clear c41
         try clear c42
         try clear c42b0
         try clear c43
         try clear c43b0
         try clear c44
         try clear c44b0
         try clear c44b1
         try clear c45
         try clear c45b0
         try clear c46
         try clear c46b0
         try clear c47
         try clear c47b0
         try clear c49
         try clear c49b0
         try clear c49b1
         try clear c52
         try clear c52b0
         try clear c52b1
         try clear c54
         try clear c54b0
         try clear c55
         try clear c55b0
         try clear c56
         try clear c56b0
         try clear c59
         try clear c59b0
         try clear c59b1
         try clear c61
         try clear hx166_0
         try clear hx166_1
         try clear hx168_0
         try clear hx168_1
         try clear hx171_0
         try clear hx171_1
         try clear hx175_0
         try clear hx175_1
         try clear hx188_0
         try clear hx188_1
         try clear hx189_0
         try clear hx189_1
         try clear hx190_0
         try clear hx190_1
         try clear hx191_0
         try clear hx191_1
         try clear hx192_0
         try clear hx192_1
         try clear hx193_0
         try clear hx193_1
         try clear hx194_0
         try clear hx194_1
         try clear hx195_0
         try clear hx195_1
         try clear hx196_0
         try clear hx196_1
         try clear p1
         try clear p16
         try clear p166
         try clear p168
         try clear p17
         try clear p171
         try clear p175
         try clear p18
         try clear p188
         try clear p189
         try clear p190
         try clear p191
         try clear p192
         try clear p193
         try clear p194
         try clear p195
         try clear p196
         try clear p2
         try clear p6
         try clear q1
         try clear q16
         try clear q166
         try clear q168
         try clear q17
         try clear q171
         try clear q175
         try clear q18
         try clear q188
         try clear q189
         try clear q190
         try clear q191
         try clear q192
         try clear q193
         try clear q194
         try clear q195
         try clear q196
         obtain ⟨x14_3, rfl, HA, HK3, HO_7, HO_10, HB⟩ := hrel
         cases gk with
         | zero => exact absurd HA.out (by simp [lockkeeperlaw15_CorsSeen.l3])
         | succ k3 =>
          have H := HA.out
          clear HA
          simp only [lockkeeperlaw15_CorsSeen.l3] at H
          by_cases c63 : x14_3 < (t182.length : Int)
          ·rw [if_pos c63] at H
           have c63b0 : decide (x14_3 < (t182.length : Int)) = true := decide_eq_true c63
           clear c63
           by_cases c64 : 0 ≤ x14_3
           ·rw [if_pos c64] at H
            have c64b0 : decide (0 ≤ x14_3) = true := decide_eq_true c64
            clear c64
            by_cases c65 : ((rd_T35 t182 x14_3).f0).toList = ([115, 101, 116, 45, 99, 111, 111, 107, 105, 101] : List UInt8)
            ·rw [if_pos c65] at H
             have c65b0 : (((rd_T35 t182 x14_3).f0).toList == ([115, 101, 116, 45, 99, 111, 111, 107, 105, 101] : List UInt8)) = true := beq_iff_eq.mpr c65
             have c65b1 : (((rd_T35 t182 x14_3).f0).toList != ([115, 101, 116, 45, 99, 111, 111, 107, 105, 101] : List UInt8)) = false := bne_eq_false_iff_eq.mpr c65
             clear c65
             clear hr_
             obtain rfl := Option.some.inj H
             obtain ⟨Ao66, co66, eo66⟩ := Kd.R_slice HO_10.out
             subst eo66
             have p197 : 0 ≤ (x14_3 : Int) := of_decide_eq_true (by first | (with_reducible assumption) | assumption)
             have q197 : x14_3 < (t182.length : Int) := of_decide_eq_true (by first | (with_reducible assumption) | assumption)
             obtain ⟨ad197, e197, hx197_0, hx197_1⟩ := at_T35 (Kd.R_reads' HO_10.out).2.2 x14_3 p197 q197
             cases e197
             replace p197 := eq_true p197
             replace q197 := eq_true q197
             go_wp2
             repeat (go_quiet (fail); try go_wp2)
             go_ret
             exact ⟨by first | rfl | (simp [errW_none, errW_some] <;> rfl) | (simp [*, errW_none, errW_some] <;> rfl), by repeat (first | (with_reducible first | exact HB.out | apply below_alloc | apply pw_below_drewN | apply below_drew1) | exact HB.out)⟩
            ·rw [if_neg c65] at H
             have c65b0 : (((rd_T35 t182 x14_3).f0).toList == ([115, 101, 116, 45, 99, 111, 111, 107, 105, 101] : List UInt8)) = false := beq_eq_false_iff_ne.mpr c65
             have c65b1 : (((rd_T35 t182 x14_3).f0).toList != ([115, 101, 116, 45, 99, 111, 111, 107, 105, 101] : List UInt8)) = true := bne_iff_ne.mpr c65
             by_cases c67 : ((rd_T35 t182 x14_3).f0).toList = ([115, 101, 116, 45, 99, 111, 111, 107, 105, 101, 50] : List UInt8)
             ·rw [if_pos c67] at H
              have c67b0 : (((rd_T35 t182 x14_3).f0).toList == ([115, 101, 116, 45, 99, 111, 111, 107, 105, 101, 50] : List UInt8)) = true := beq_iff_eq.mpr c67
              have c67b1 : (((rd_T35 t182 x14_3).f0).toList != ([115, 101, 116, 45, 99, 111, 111, 107, 105, 101, 50] : List UInt8)) = false := bne_eq_false_iff_eq.mpr c67
              clear c67
              clear hr_
              obtain rfl := Option.some.inj H
              obtain ⟨Ao68, co68, eo68⟩ := Kd.R_slice HO_10.out
              subst eo68
              have p197 : 0 ≤ (x14_3 : Int) := of_decide_eq_true (by first | (with_reducible assumption) | assumption)
              have q197 : x14_3 < (t182.length : Int) := of_decide_eq_true (by first | (with_reducible assumption) | assumption)
              obtain ⟨ad197, e197, hx197_0, hx197_1⟩ := at_T35 (Kd.R_reads' HO_10.out).2.2 x14_3 p197 q197
              cases e197
              replace p197 := eq_true p197
              replace q197 := eq_true q197
              have p198 : 0 ≤ (x14_3 : Int) := of_decide_eq_true (by first | (with_reducible assumption) | assumption)
              have q198 : x14_3 < (t182.length : Int) := of_decide_eq_true (by first | (with_reducible assumption) | assumption)
              obtain ⟨ad198, e198, hx198_0, hx198_1⟩ := at_T35 (Kd.R_reads' HO_10.out).2.2 x14_3 p198 q198
              obtain rfl : ad197 = ad198 := (by injection e198)
              replace p198 := eq_true p198
              replace q198 := eq_true q198
              go_wp2
              repeat (go_quiet (fail); try go_wp2)
              go_ret
              exact ⟨by first | rfl | (simp [errW_none, errW_some] <;> rfl) | (simp [*, errW_none, errW_some] <;> rfl), by repeat (first | (with_reducible first | exact HB.out | apply below_alloc | apply pw_below_drewN | apply below_drew1) | exact HB.out)⟩
             ·rw [if_neg c67] at H
              have c67b0 : (((rd_T35 t182 x14_3).f0).toList == ([115, 101, 116, 45, 99, 111, 111, 107, 105, 101, 50] : List UInt8)) = false := beq_eq_false_iff_ne.mpr c67
              have c67b1 : (((rd_T35 t182 x14_3).f0).toList != ([115, 101, 116, 45, 99, 111, 111, 107, 105, 101, 50] : List UInt8)) = true := bne_iff_ne.mpr c67
              have H' := Aside0.mk H
              clear H
              obtain ⟨Ao69, co69, eo69⟩ := Kd.R_slice HO_10.out
              subst eo69
              have p197 : 0 ≤ (x14_3 : Int) := of_decide_eq_true (by first | (with_reducible assumption) | assumption)
              have q197 : x14_3 < (t182.length : Int) := of_decide_eq_true (by first | (with_reducible assumption) | assumption)
              obtain ⟨ad197, e197, hx197_0, hx197_1⟩ := at_T35 (Kd.R_reads' HO_10.out).2.2 x14_3 p197 q197
              cases e197
              replace p197 := eq_true p197
              replace q197 := eq_true q197
              have p198 : 0 ≤ (x14_3 : Int) := of_decide_eq_true (by first | (with_reducible assumption) | assumption)
              have q198 : x14_3 < (t182.length : Int) := of_decide_eq_true (by first | (with_reducible assumption) | assumption)
              obtain ⟨ad198, e198, hx198_0, hx198_1⟩ := at_T35 (Kd.R_reads' HO_10.out).2.2 x14_3 p198 q198
              obtain rfl : ad197 = ad198 := (by injection e198)
              replace p198 := eq_true p198
              replace q198 := eq_true q198
              go_wp2
              repeat (go_quiet (fail); try go_wp2)
              go_roundg k3
              case measure => have := HK1.out; have := HK2.out; have := HK3.out; omega
              case rel => exact ⟨(wrap64 (x14_3 + 1)), (by first | rfl | (simp; done) | (simp [*]; done)), H', ⟨by have := HK1.out; have := HK2.out; have := HK3.out; omega⟩, ⟨by (with_reducible repeat (first | apply Kd.R_alloc | apply Kd.R_drewN | apply Kd.R_drew)); exact HO_7.out⟩, ⟨by (with_reducible repeat (first | apply Kd.R_alloc | apply Kd.R_drewN | apply Kd.R_drew)); exact HO_10.out⟩, ⟨by repeat (first | (with_reducible first | exact HB.out | apply below_alloc | apply pw_below_drewN | apply below_drew1) | exact HB.out)⟩⟩
           ·rw [if_neg c64] at H
            exact absurd H (by simp)
          ·rw [if_neg c63] at H
           have c63b0 : decide (x14_3 < (t182.length : Int)) = false := decide_eq_false c63
           clear c63
           by_cases c70 : (t182.length : Int) ≤ (x7_1.length : Int)
           ·rw [if_pos c70] at H
            have c70b0 : decide ((t182.length : Int) ≤ (x7_1.length : Int)) = true := decide_eq_true c70
            have c70b1 : decide (t182.length ≤ x7_1.length) = true := decide_eq_true (Int.ofNat_le.mp c70)
            clear c70
            replace H := Option.bind_eq_some_iff.mp H
            obtain ⟨t199, A710, H⟩ := H
            replace H : (some t199) = some r := H
            have A71 := Aside0.mk A710
            clear A710
            clear hr_
            obtain rfl := Option.some.inj H
            obtain ⟨Ao72, co72, eo72⟩ := Kd.R_slice HO_10.out
            subst eo72
            go_wp2_with (first | (go_at_call 8; (with_reducible refine (lockkeeperlaw15_awake.calls k3  t199 _ A71.out).mono ?_); rintro e w73 ⟨rfl, hb⟩; have n0_ := Aside0.mk (Kd.R_below (by (with_reducible repeat (first | apply Kd.R_alloc | apply Kd.R_drewN | apply Kd.R_drew)); exact HO_7.out) hb); have n1_ := Aside0.mk (Kd.R_below (by (with_reducible repeat (first | apply Kd.R_alloc | apply Kd.R_drewN | apply Kd.R_drew)); exact HO_10.out) hb); have n2_ := Aside0.mk (below_step (by repeat (first | (with_reducible first | exact HB.out | apply below_alloc | apply pw_below_drewN | apply below_drew1) | exact HB.out)) hb); clear HO_7; clear HO_10; clear HB; have HO_7 := n0_; have HO_10 := n1_; have HB := n2_; clear n0_ n1_ n2_; (try clear hb); (try clear hb2); (try clear hk); (try clear hi)))
            repeat (go_quiet (first | (go_at_call 8; (with_reducible refine (lockkeeperlaw15_awake.calls k3  t199 _ A71.out).mono ?_); rintro e w73 ⟨rfl, hb⟩; have n0_ := Aside0.mk (Kd.R_below (by (with_reducible repeat (first | apply Kd.R_alloc | apply Kd.R_drewN | apply Kd.R_drew)); exact HO_7.out) hb); have n1_ := Aside0.mk (Kd.R_below (by (with_reducible repeat (first | apply Kd.R_alloc | apply Kd.R_drewN | apply Kd.R_drew)); exact HO_10.out) hb); have n2_ := Aside0.mk (below_step (by repeat (first | (with_reducible first | exact HB.out | apply below_alloc | apply pw_below_drewN | apply below_drew1) | exact HB.out)) hb); clear HO_7; clear HO_10; clear HB; have HO_7 := n0_; have HO_10 := n1_; have HB := n2_; clear n0_ n1_ n2_; (try clear hb); (try clear hb2); (try clear hk); (try clear hi))); try go_wp2_with (first | (go_at_call 8; (with_reducible refine (lockkeeperlaw15_awake.calls k3  t199 _ A71.out).mono ?_); rintro e w73 ⟨rfl, hb⟩; have n0_ := Aside0.mk (Kd.R_below (by (with_reducible repeat (first | apply Kd.R_alloc | apply Kd.R_drewN | apply Kd.R_drew)); exact HO_7.out) hb); have n1_ := Aside0.mk (Kd.R_below (by (with_reducible repeat (first | apply Kd.R_alloc | apply Kd.R_drewN | apply Kd.R_drew)); exact HO_10.out) hb); have n2_ := Aside0.mk (below_step (by repeat (first | (with_reducible first | exact HB.out | apply below_alloc | apply pw_below_drewN | apply below_drew1) | exact HB.out)) hb); clear HO_7; clear HO_10; clear HB; have HO_7 := n0_; have HO_10 := n1_; have HB := n2_; clear n0_ n1_ n2_; (try clear hb); (try clear hb2); (try clear hk); (try clear hi))))
            go_ret
            exact ⟨by first | rfl | (simp [errW_none, errW_some] <;> rfl) | (simp [*, errW_none, errW_some] <;> rfl), by repeat (first | (with_reducible first | exact HB.out | apply below_alloc | apply pw_below_drewN | apply below_drew1) | exact HB.out)⟩
           ·rw [if_neg c70] at H
            have c70b0 : decide ((t182.length : Int) ≤ (x7_1.length : Int)) = false := decide_eq_false c70
            have c70b1 : decide (t182.length ≤ x7_1.length) = false := decide_eq_false (fun h => c70 (Int.ofNat_le.mpr h))
            clear c70
            clear hr_
            obtain rfl := Option.some.inj H
            obtain ⟨Ao74, co74, eo74⟩ := Kd.R_slice HO_10.out
            subst eo74
            go_wp2
            repeat (go_quiet (fail); try go_wp2)
            go_ret
            exact ⟨by first | rfl | (simp [errW_none, errW_some] <;> rfl) | (simp [*, errW_none, errW_some] <;> rfl), by repeat (first | (with_reducible first | exact HB.out | apply below_alloc | apply pw_below_drewN | apply below_drew1) | exact HB.out)⟩

end Go.Proofs.YtnbkfneolgeeeaaDoor.Pr
