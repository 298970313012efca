-- Made by a program of this session (wip/xp/xp.py), over the print's words.
import Derived.Test.YtfmajangcbgooaaGreatDoorPr0
import Derived.Test.YtfmajangcbgooaaGreatDoorK0
import Derived.Test.YtfmajangcbgooaaGreatDoorPr2
import Derived.Test.YtfmajangcbgooaaGreatDoorPr10
import Derived.Test.YtfmajangcbgooaaGreatDoorPr11
import Derived.Test.YtfmajangcbgooaaGreatDoorG5
namespace Go.Proofs.YtfmajangcbgooaaGreatDoor.Pr
open Go.RowKit Go.Proofs.YtfmajangcbgooaaGreatDoorW.PrintWords Go.Proofs.YtfmajangcbgooaaGreatDoorW.PrintLast Go.Proofs.YtfmajangcbgooaaGreatDoorW.PrintMore
attribute [local go_sem] max2_int min2_int max_two min_two max_three min_three max_four min_four   -- for this text's walks alone
set_option linter.unusedVariables false
set_option linter.unusedSimpArgs false

abbrev lockkeeperlaw8_AskModes_b0 : Array Bool := #[false,false,false,false,false,false,false,false,false,false,false,false,false,false,false,false,false,false,false,false,false,false,false,false,false,false,false,false,false,false]
abbrev lockkeeperlaw8_AskModes_b1 : Array Bool := #[true,false,false,false,false,false,false,false,false,false,false,false,false,false,false,false,false,false,false,false,false,false,false,false,false,false,false,false,false,false]
abbrev lockkeeperlaw8_AskModes_b2 : Array Bool := #[true,true,false,false,false,false,false,false,false,false,false,false,false,false,false,false,false,false,false,false,false,false,false,false,false,false,false,false,false,false]
abbrev lockkeeperlaw8_AskModes_b3 : Array Bool := #[true,true,true,false,false,false,false,false,false,false,false,false,false,false,false,false,false,false,false,false,false,false,false,false,false,false,false,false,false,false]
abbrev lockkeeperlaw8_AskModes_b4 : Array Bool := #[true,true,true,true,false,false,false,false,false,false,false,false,false,false,false,false,false,false,false,false,false,false,false,false,false,false,false,false,false,false]
abbrev lockkeeperlaw8_AskModes_b5 : Array Bool := #[true,true,true,true,false,false,true,false,false,false,false,false,false,false,false,false,false,false,false,false,false,false,false,false,false,false,false,false,false,false]
abbrev lockkeeperlaw8_AskModes_b6 : Array Bool := #[true,true,true,true,true,false,true,false,false,false,false,false,false,false,false,false,false,false,false,false,false,false,false,false,false,false,false,false,false,false]
abbrev lockkeeperlaw8_AskModes_b7 : Array Bool := #[true,true,true,true,true,true,true,false,false,false,false,false,false,false,false,false,false,false,false,false,false,false,false,false,false,false,false,false,false,false]
abbrev lockkeeperlaw8_AskModes_b8 : Array Bool := #[true,true,true,true,true,true,true,true,false,false,false,false,false,false,false,false,false,false,false,false,false,false,false,false,false,false,false,false,false,false]
abbrev lockkeeperlaw8_AskModes_b9 : Array Bool := #[true,true,true,true,true,true,true,true,true,false,false,false,false,false,false,false,false,false,false,false,false,false,false,false,false,false,false,false,false,false]
abbrev lockkeeperlaw8_AskModes_b10 : Array Bool := #[true,true,true,true,true,true,true,true,true,true,false,false,false,false,false,false,false,false,false,false,false,false,false,false,false,false,false,false,false,false]
abbrev lockkeeperlaw8_AskModes_b11 : Array Bool := #[true,true,true,true,true,true,true,true,true,true,false,false,true,false,false,false,false,false,false,false,false,false,false,false,false,false,false,false,false,false]
abbrev lockkeeperlaw8_AskModes_b12 : Array Bool := #[true,true,true,true,true,true,true,true,true,true,true,false,true,false,false,false,false,false,false,false,false,false,false,false,false,false,false,false,false,false]
abbrev lockkeeperlaw8_AskModes_b13 : Array Bool := #[true,true,true,true,true,true,true,true,true,true,true,false,true,true,false,false,false,false,false,false,false,false,false,false,false,false,false,false,false,false]
abbrev lockkeeperlaw8_AskModes_b14 : Array Bool := #[true,true,true,true,true,true,true,true,true,true,true,false,true,true,true,false,false,false,false,false,false,false,false,false,false,false,false,false,false,false]
abbrev lockkeeperlaw8_AskModes_b15 : Array Bool := #[true,true,true,true,true,true,true,true,true,true,true,true,true,true,true,false,false,false,false,false,false,false,false,false,false,false,false,false,false,false]
abbrev lockkeeperlaw8_AskModes_b16 : Array Bool := #[true,true,true,true,true,true,true,true,true,true,true,true,true,true,true,true,false,false,false,false,false,false,false,false,false,false,false,false,false,false]
abbrev lockkeeperlaw8_AskModes_b17 : Array Bool := #[true,true,true,true,true,true,true,true,true,true,true,true,true,true,true,true,true,false,false,false,false,false,false,false,false,false,false,false,false,false]
abbrev lockkeeperlaw8_AskModes_b18 : Array Bool := #[true,true,true,true,true,true,true,true,true,true,true,true,true,true,true,true,true,true,false,false,false,false,false,false,false,false,false,false,false,false]
abbrev lockkeeperlaw8_AskModes_b19 : Array Bool := #[true,true,true,true,true,true,true,true,true,true,true,true,true,true,true,true,true,true,true,false,false,false,false,false,false,false,false,false,false,false]
abbrev lockkeeperlaw8_AskModes_b20 : Array Bool := #[true,true,true,true,true,true,true,true,true,true,true,true,true,true,true,true,true,true,true,true,false,false,false,false,false,false,false,false,false,false]
abbrev lockkeeperlaw8_AskModes_b21 : Array Bool := #[true,true,true,true,true,true,true,true,true,true,true,true,true,true,true,true,true,true,true,true,true,false,false,false,false,false,false,false,false,false]
abbrev lockkeeperlaw8_AskModes_b22 : Array Bool := #[true,true,true,true,true,true,true,true,true,true,true,true,true,true,true,true,true,true,true,true,true,true,false,false,false,false,false,false,false,false]
abbrev lockkeeperlaw8_AskModes_b23 : Array Bool := #[true,true,true,true,true,true,true,true,true,true,true,true,true,true,true,true,true,true,true,true,true,true,true,false,false,false,false,false,false,false]
abbrev lockkeeperlaw8_AskModes_b24 : Array Bool := #[true,true,true,true,true,true,true,true,true,true,true,true,true,true,true,true,true,true,true,true,true,true,true,true,false,false,false,false,false,false]
abbrev lockkeeperlaw8_AskModes_b25 : Array Bool := #[true,true,true,true,true,true,true,true,true,true,true,true,true,true,true,true,true,true,true,true,true,true,true,true,true,false,false,false,false,false]
abbrev lockkeeperlaw8_AskModes_b26 : Array Bool := #[true,true,true,true,true,true,true,true,true,true,true,true,true,true,true,true,true,true,true,true,true,true,true,true,true,true,false,false,false,false]
abbrev lockkeeperlaw8_AskModes_b27 : Array Bool := #[true,true,true,true,true,true,true,true,true,true,true,true,true,true,true,true,true,true,true,true,true,true,true,true,true,true,true,false,false,false]
abbrev lockkeeperlaw8_AskModes_b28 : Array Bool := #[true,true,true,true,true,true,true,true,true,true,true,true,true,true,true,true,true,true,true,true,true,true,true,true,true,true,true,true,false,false]
abbrev lockkeeperlaw8_AskModes_b29 : Array Bool := #[true,true,true,true,true,true,true,true,true,true,true,true,true,true,true,true,true,true,true,true,true,true,true,true,true,true,true,true,true,false]
abbrev lockkeeperlaw8_AskModes_b30 : Array Bool := #[true,true,true,true,true,true,true,true,true,true,true,true,true,true,true,true,true,true,true,true,true,true,true,true,true,true,true,true,true,true]
/-! ### lockkeeperlaw8_AskModes: function 3 -/
mutual
def lockkeeperlaw8_AskModes.j0 : Nat → Bool → Bool → Bool → ByteArray → ByteArray → ByteArray → Int → Bool → Int → Int → Int → Int → Option (Bool)
 | 0, _, _, _, _, _, _, _, _, _, _, _, _ => none
 | k + 1, x0, x2, x3, x340000, x340001, x340002, x340003, x340004, x340006, x340007, x340008, x340009 => if x2 = true then (lockkeeperlaw8_AskModes.j1 k x0 x2 x3 (⟨#[112, 117, 116]⟩ : ByteArray) x340001 x340002 x340003 x340004 x340006 x340007 x340008 x340009) else (lockkeeperlaw8_AskModes.j1 k x0 x2 x3 x340000 x340001 x340002 x340003 x340004 x340006 x340007 x340008 x340009)
def lockkeeperlaw8_AskModes.j1 : Nat → Bool → Bool → Bool → ByteArray → ByteArray → ByteArray → Int → Bool → Int → Int → Int → Int → Option (Bool)
 | 0, _, _, _, _, _, _, _, _, _, _, _, _ => none
 | k + 1, x0, x2, x3, x340000, x340001, x340002, x340003, x340004, x340006, x340007, x340008, x340009 => if x3 = true then (lockkeeperlaw8_AskModes.j2 k x0 x2 x3 x340000 x340001 x340002 x340003 x340004 (([(⟨(⟨#[88, 45, 79, 119, 110]⟩ : ByteArray), (⟨#[49]⟩ : ByteArray)⟩ : S28)] : List (S28))) x340006 x340007 x340008 x340009) else (lockkeeperlaw8_AskModes.j2 k x0 x2 x3 x340000 x340001 x340002 x340003 x340004 ([] : List (S28)) x340006 x340007 x340008 x340009)
def lockkeeperlaw8_AskModes.j2 : Nat → Bool → Bool → Bool → ByteArray → ByteArray → ByteArray → Int → Bool → List (S28) → Int → Int → Int → Int → Option (Bool)
 | 0, _, _, _, _, _, _, _, _, _, _, _, _, _ => none
 | k + 1, x0, x2, x3, x340000, x340001, x340002, x340003, x340004, x340005, x340006, x340007, x340008, x340009 => if x340003 = 1 then (if x0 = true then (lockkeeperlaw8_AskModes.j3 k x0 x2 x3 true x340000 x340001 x340002 x340003 x340004 x340005 x340006 x340007 x340008 x340009) else (if x340003 = 2 then (if x2 = true then (lockkeeperlaw8_AskModes.j3 k x0 x2 x3 true x340000 x340001 x340002 x340003 x340004 x340005 x340006 x340007 x340008 x340009) else (lockkeeperlaw8_AskModes.j3 k x0 x2 x3 x3 x340000 x340001 x340002 x340003 x340004 x340005 x340006 x340007 x340008 x340009)) else (lockkeeperlaw8_AskModes.j3 k x0 x2 x3 false x340000 x340001 x340002 x340003 x340004 x340005 x340006 x340007 x340008 x340009))) else (if x340003 = 2 then (if x2 = true then (lockkeeperlaw8_AskModes.j3 k x0 x2 x3 true x340000 x340001 x340002 x340003 x340004 x340005 x340006 x340007 x340008 x340009) else (lockkeeperlaw8_AskModes.j3 k x0 x2 x3 x3 x340000 x340001 x340002 x340003 x340004 x340005 x340006 x340007 x340008 x340009)) else (lockkeeperlaw8_AskModes.j3 k x0 x2 x3 false x340000 x340001 x340002 x340003 x340004 x340005 x340006 x340007 x340008 x340009))
def lockkeeperlaw8_AskModes.j3 : Nat → Bool → Bool → Bool → Bool → ByteArray → ByteArray → ByteArray → Int → Bool → List (S28) → Int → Int → Int → Int → Option (Bool)
 | 0, _, _, _, _, _, _, _, _, _, _, _, _, _, _ => none
 | k + 1, x0, x2, x3, x10, x340000, x340001, x340002, x340003, x340004, x340005, x340006, x340007, x340008, x340009 => if x10 = true then ((ask_Check.f k x340000 x340001 x340002 x340003 x340004 x340005 x340006 x340007 x340008 x340009).bind fun t343 => (if t343 = 7 then ((ask_Needs.f k x340000 x340001 x340002 x340003 x340004 x340005 x340006 x340007 x340008 x340009).bind fun t344 => (if t344 = true then (some false) else ((lockkeeperlaw8_awake.f k).bind fun t345 => (some t345)))) else (some false))) else ((ask_Check.f k x340000 x340001 x340002 x340003 x340004 x340005 x340006 x340007 x340008 x340009).bind fun t346 => (if t346 = 0 then ((ask_Cross.f k x340000 x340001 x340002 x340003 x340004 x340005 x340006 x340007 x340008 x340009).bind fun t347 => (if (t347 == x0) = true then ((ask_Needs.f k x340000 x340001 x340002 x340003 x340004 x340005 x340006 x340007 x340008 x340009).bind fun t348 => (if x340003 = 3 then (if x0 = true then (if x2 = true then (if (t348 == true) = true then ((lockkeeperlaw8_awake.f k).bind fun t349 => (some t349)) else (some false)) else (if (t348 == x3) = true then ((lockkeeperlaw8_awake.f k).bind fun t350 => (some t350)) else (some false))) else (if (t348 == false) = true then ((lockkeeperlaw8_awake.f k).bind fun t351 => (some t351)) else (some false))) else (if (t348 == false) = true then ((lockkeeperlaw8_awake.f k).bind fun t352 => (some t352)) else (some false)))) else (some false))) else (some false)))
end
def lockkeeperlaw8_AskModes.f (k : Nat) (a0 : Bool) (a1 : Int) (a2 : Bool) (a3 : Bool) : Option (Bool) := (lockkeeperlaw0_Low.f a1 3).bind fun t338 => (if a0 = true then (lockkeeperlaw8_AskModes.j0 k a0 a2 a3 (⟨#[71, 69, 84]⟩ : ByteArray) (⟨#[104, 116, 116, 112, 115, 58, 47, 47, 97, 46, 98, 58, 52, 52, 52, 47, 120]⟩ : ByteArray) (⟨#[104, 116, 116, 112, 115, 58, 47, 47, 97, 46, 98]⟩ : ByteArray) (wrap64 (1 + t338)) false 2 0 0 0) else (lockkeeperlaw8_AskModes.j0 k a0 a2 a3 (⟨#[71, 69, 84]⟩ : ByteArray) (⟨#[104, 116, 116, 112, 115, 58, 47, 47, 97, 46, 98, 47, 120]⟩ : ByteArray) (⟨#[104, 116, 116, 112, 115, 58, 47, 47, 97, 46, 98]⟩ : ByteArray) (wrap64 (1 + t338)) false 2 0 0 0))
theorem lockkeeperlaw8_AskModes.mono_l : ∀ k, (∀ y0 y1 y2 y3 y4 y5 y6 y7 y8 y9 y10 y11, LeO (lockkeeperlaw8_AskModes.j0 k y0 y1 y2 y3 y4 y5 y6 y7 y8 y9 y10 y11) (lockkeeperlaw8_AskModes.j0 (k + 1) y0 y1 y2 y3 y4 y5 y6 y7 y8 y9 y10 y11)) ∧ (∀ y0 y1 y2 y3 y4 y5 y6 y7 y8 y9 y10 y11, LeO (lockkeeperlaw8_AskModes.j1 k y0 y1 y2 y3 y4 y5 y6 y7 y8 y9 y10 y11) (lockkeeperlaw8_AskModes.j1 (k + 1) y0 y1 y2 y3 y4 y5 y6 y7 y8 y9 y10 y11)) ∧ (∀ y0 y1 y2 y3 y4 y5 y6 y7 y8 y9 y10 y11 y12, LeO (lockkeeperlaw8_AskModes.j2 k y0 y1 y2 y3 y4 y5 y6 y7 y8 y9 y10 y11 y12) (lockkeeperlaw8_AskModes.j2 (k + 1) y0 y1 y2 y3 y4 y5 y6 y7 y8 y9 y10 y11 y12)) ∧ (∀ y0 y1 y2 y3 y4 y5 y6 y7 y8 y9 y10 y11 y12 y13, LeO (lockkeeperlaw8_AskModes.j3 k y0 y1 y2 y3 y4 y5 y6 y7 y8 y9 y10 y11 y12 y13) (lockkeeperlaw8_AskModes.j3 (k + 1) y0 y1 y2 y3 y4 y5 y6 y7 y8 y9 y10 y11 y12 y13))
 | 0 => ⟨fun _ _ _ _ _ _ _ _ _ _ _ _ r h => by simp [lockkeeperlaw8_AskModes.j0] at h, fun _ _ _ _ _ _ _ _ _ _ _ _ r h => by simp [lockkeeperlaw8_AskModes.j1] at h, fun _ _ _ _ _ _ _ _ _ _ _ _ _ r h => by simp [lockkeeperlaw8_AskModes.j2] at h, fun _ _ _ _ _ _ _ _ _ _ _ _ _ _ r h => by simp [lockkeeperlaw8_AskModes.j3] at h⟩
 | k + 1 => by
  obtain ⟨ih0, ih1, ih2, ih3⟩ := lockkeeperlaw8_AskModes.mono_l k
  refine ⟨?_, ?_, ?_, ?_⟩
  ·intro y0 y1 y2 y3 y4 y5 y6 y7 y8 y9 y10 y11
   unfold lockkeeperlaw8_AskModes.j0
   repeat' first
   | (with_reducible exact ih0 _ _ _ _ _ _ _ _ _ _ _ _)
   | (with_reducible exact ih1 _ _ _ _ _ _ _ _ _ _ _ _)
   | (with_reducible exact ih2 _ _ _ _ _ _ _ _ _ _ _ _ _)
   | (with_reducible exact ih3 _ _ _ _ _ _ _ _ _ _ _ _ _ _)
   | (with_reducible exact ask_Check.mono _ _ _ _ _ _ _ _ _ _ _)
   | (with_reducible exact ask_Cross.mono _ _ _ _ _ _ _ _ _ _ _)
   | (with_reducible exact ask_Needs.mono _ _ _ _ _ _ _ _ _ _ _)
   | (with_reducible exact lockkeeperlaw8_awake.mono _)
   | (with_reducible exact LeO.refl _)
   | (with_reducible exact LeO.none _)
   | (with_reducible refine LeO.ite ?_ ?_)
   | (with_reducible refine LeO.bind ?_ (fun _ => ?_))
   | exact ih0 _ _ _ _ _ _ _ _ _ _ _ _
   | exact ih1 _ _ _ _ _ _ _ _ _ _ _ _
   | exact ih2 _ _ _ _ _ _ _ _ _ _ _ _ _
   | exact ih3 _ _ _ _ _ _ _ _ _ _ _ _ _ _
   | exact ask_Check.mono _ _ _ _ _ _ _ _ _ _ _
   | exact ask_Cross.mono _ _ _ _ _ _ _ _ _ _ _
   | exact ask_Needs.mono _ _ _ _ _ _ _ _ _ _ _
   | exact lockkeeperlaw8_awake.mono _
   | exact LeO.none _
   | refine LeO.ite ?_ ?_
   | refine LeO.bind ?_ (fun _ => ?_)
  ·intro y0 y1 y2 y3 y4 y5 y6 y7 y8 y9 y10 y11
   unfold lockkeeperlaw8_AskModes.j1
   repeat' first
   | (with_reducible exact ih0 _ _ _ _ _ _ _ _ _ _ _ _)
   | (with_reducible exact ih1 _ _ _ _ _ _ _ _ _ _ _ _)
   | (with_reducible exact ih2 _ _ _ _ _ _ _ _ _ _ _ _ _)
   | (with_reducible exact ih3 _ _ _ _ _ _ _ _ _ _ _ _ _ _)
   | (with_reducible exact ask_Check.mono _ _ _ _ _ _ _ _ _ _ _)
   | (with_reducible exact ask_Cross.mono _ _ _ _ _ _ _ _ _ _ _)
   | (with_reducible exact ask_Needs.mono _ _ _ _ _ _ _ _ _ _ _)
   | (with_reducible exact lockkeeperlaw8_awake.mono _)
   | (with_reducible exact LeO.refl _)
   | (with_reducible exact LeO.none _)
   | (with_reducible refine LeO.ite ?_ ?_)
   | (with_reducible refine LeO.bind ?_ (fun _ => ?_))
   | exact ih0 _ _ _ _ _ _ _ _ _ _ _ _
   | exact ih1 _ _ _ _ _ _ _ _ _ _ _ _
   | exact ih2 _ _ _ _ _ _ _ _ _ _ _ _ _
   | exact ih3 _ _ _ _ _ _ _ _ _ _ _ _ _ _
   | exact ask_Check.mono _ _ _ _ _ _ _ _ _ _ _
   | exact ask_Cross.mono _ _ _ _ _ _ _ _ _ _ _
   | exact ask_Needs.mono _ _ _ _ _ _ _ _ _ _ _
   | exact lockkeeperlaw8_awake.mono _
   | exact LeO.none _
   | refine LeO.ite ?_ ?_
   | refine LeO.bind ?_ (fun _ => ?_)
  ·intro y0 y1 y2 y3 y4 y5 y6 y7 y8 y9 y10 y11 y12
   unfold lockkeeperlaw8_AskModes.j2
   repeat' first
   | (with_reducible exact ih0 _ _ _ _ _ _ _ _ _ _ _ _)
   | (with_reducible exact ih1 _ _ _ _ _ _ _ _ _ _ _ _)
   | (with_reducible exact ih2 _ _ _ _ _ _ _ _ _ _ _ _ _)
   | (with_reducible exact ih3 _ _ _ _ _ _ _ _ _ _ _ _ _ _)
   | (with_reducible exact ask_Check.mono _ _ _ _ _ _ _ _ _ _ _)
   | (with_reducible exact ask_Cross.mono _ _ _ _ _ _ _ _ _ _ _)
   | (with_reducible exact ask_Needs.mono _ _ _ _ _ _ _ _ _ _ _)
   | (with_reducible exact lockkeeperlaw8_awake.mono _)
   | (with_reducible exact LeO.refl _)
   | (with_reducible exact LeO.none _)
   | (with_reducible refine LeO.ite ?_ ?_)
   | (with_reducible refine LeO.bind ?_ (fun _ => ?_))
   | exact ih0 _ _ _ _ _ _ _ _ _ _ _ _
   | exact ih1 _ _ _ _ _ _ _ _ _ _ _ _
   | exact ih2 _ _ _ _ _ _ _ _ _ _ _ _ _
   | exact ih3 _ _ _ _ _ _ _ _ _ _ _ _ _ _
   | exact ask_Check.mono _ _ _ _ _ _ _ _ _ _ _
   | exact ask_Cross.mono _ _ _ _ _ _ _ _ _ _ _
   | exact ask_Needs.mono _ _ _ _ _ _ _ _ _ _ _
   | exact lockkeeperlaw8_awake.mono _
   | exact LeO.none _
   | refine LeO.ite ?_ ?_
   | refine LeO.bind ?_ (fun _ => ?_)
  ·intro y0 y1 y2 y3 y4 y5 y6 y7 y8 y9 y10 y11 y12 y13
   unfold lockkeeperlaw8_AskModes.j3
   repeat' first
   | (with_reducible exact ih0 _ _ _ _ _ _ _ _ _ _ _ _)
   | (with_reducible exact ih1 _ _ _ _ _ _ _ _ _ _ _ _)
   | (with_reducible exact ih2 _ _ _ _ _ _ _ _ _ _ _ _ _)
   | (with_reducible exact ih3 _ _ _ _ _ _ _ _ _ _ _ _ _ _)
   | (with_reducible exact ask_Check.mono _ _ _ _ _ _ _ _ _ _ _)
   | (with_reducible exact ask_Cross.mono _ _ _ _ _ _ _ _ _ _ _)
   | (with_reducible exact ask_Needs.mono _ _ _ _ _ _ _ _ _ _ _)
   | (with_reducible exact lockkeeperlaw8_awake.mono _)
   | (with_reducible exact LeO.refl _)
   | (with_reducible exact LeO.none _)
   | (with_reducible refine LeO.ite ?_ ?_)
   | (with_reducible refine LeO.bind ?_ (fun _ => ?_))
   | exact ih0 _ _ _ _ _ _ _ _ _ _ _ _
   | exact ih1 _ _ _ _ _ _ _ _ _ _ _ _
   | exact ih2 _ _ _ _ _ _ _ _ _ _ _ _ _
   | exact ih3 _ _ _ _ _ _ _ _ _ _ _ _ _ _
   | exact ask_Check.mono _ _ _ _ _ _ _ _ _ _ _
   | exact ask_Cross.mono _ _ _ _ _ _ _ _ _ _ _
   | exact ask_Needs.mono _ _ _ _ _ _ _ _ _ _ _
   | exact lockkeeperlaw8_awake.mono _
   | exact LeO.none _
   | refine LeO.ite ?_ ?_
   | refine LeO.bind ?_ (fun _ => ?_)
theorem lockkeeperlaw8_AskModes.mono : ∀ a0 a1 a2 a3 k, LeO (lockkeeperlaw8_AskModes.f k a0 a1 a2 a3) (lockkeeperlaw8_AskModes.f (k + 1) a0 a1 a2 a3) := by
 intro a0 a1 a2 a3 k
 obtain ⟨ih0, ih1, ih2, ih3⟩ := lockkeeperlaw8_AskModes.mono_l k
 unfold lockkeeperlaw8_AskModes.f
 repeat' first
   | (with_reducible exact ih0 _ _ _ _ _ _ _ _ _ _ _ _)
   | (with_reducible exact ih1 _ _ _ _ _ _ _ _ _ _ _ _)
   | (with_reducible exact ih2 _ _ _ _ _ _ _ _ _ _ _ _ _)
   | (with_reducible exact ih3 _ _ _ _ _ _ _ _ _ _ _ _ _ _)
   | (with_reducible exact ask_Check.mono _ _ _ _ _ _ _ _ _ _ _)
   | (with_reducible exact ask_Cross.mono _ _ _ _ _ _ _ _ _ _ _)
   | (with_reducible exact ask_Needs.mono _ _ _ _ _ _ _ _ _ _ _)
   | (with_reducible exact lockkeeperlaw8_awake.mono _)
   | (with_reducible exact LeO.refl _)
   | (with_reducible exact LeO.none _)
   | (with_reducible refine LeO.ite ?_ ?_)
   | (with_reducible refine LeO.bind ?_ (fun _ => ?_))
   | exact ih0 _ _ _ _ _ _ _ _ _ _ _ _
   | exact ih1 _ _ _ _ _ _ _ _ _ _ _ _
   | exact ih2 _ _ _ _ _ _ _ _ _ _ _ _ _
   | exact ih3 _ _ _ _ _ _ _ _ _ _ _ _ _ _
   | exact ask_Check.mono _ _ _ _ _ _ _ _ _ _ _
   | exact ask_Cross.mono _ _ _ _ _ _ _ _ _ _ _
   | exact ask_Needs.mono _ _ _ _ _ _ _ _ _ _ _
   | exact lockkeeperlaw8_awake.mono _
   | exact LeO.none _
   | refine LeO.ite ?_ ?_
   | refine LeO.bind ?_ (fun _ => ?_)
def lockkeeperlaw8_AskModes.T11 : Bool × List (List Nat × List Nat) := (true, [([], []), ([0], [0]), ([1], [1]), ([2, 1], [2]), ([3], [3]), ([4, 3, 3], [3, 4]), ([3], [3]), ([5, 6, 3], [3, 5, 6]), ([3, 7], [3, 7]), ([8, 5], [8]), ([9], [9]), ([10, 9, 9], [9, 10]), ([9], [9]), ([12, 9], [9, 12]), ([13, 9], [9, 13]), ([14, 11, 9], [9, 14]), ([15], [15]), ([15, 16, 9], [9, 15, 16]), ([17, 15, 9], [9, 17]), ([18], [18]), ([19, 18, 18], [18, 19]), ([20], [20]), ([20, 21, 18], [18, 20, 21]), ([18, 22, 9], [9, 18, 22]), ([11, 23, 9], [9, 11, 23]), ([9, 24], [9, 24]), ([25, 20], [25]), ([26, 26], [26]), ([26, 27], [26, 27]), ([28, 27, 0, 1, 2, 3, 4, 5, 6, 7, 8, 9, 10, 11, 12, 13, 14, 15, 16, 17, 18, 19, 20, 21, 22, 23, 24, 25, 26, 27, 28], [28])])
def lockkeeperlaw8_AskModes.B11 : List Nat := [0, 1, 3, 7, 15, 31, 15, 127, 255, 511, 1023, 2047, 1023, 5119, 13311, 32767, 65535, 131071, 262143, 524287, 1048575, 2097151, 4194303, 8388607, 16777215, 33554431, 67108863, 134217727, 268435455, 536870911]
theorem lockkeeperlaw8_AskModes.tab11 : rtab .any (opsOf Tryz.f3 11) = lockkeeperlaw8_AskModes.T11 := by kernel_rfl
theorem lockkeeperlaw8_AskModes.bits11 : waitsOk lockkeeperlaw8_AskModes.T11.2 lockkeeperlaw8_AskModes.B11 = true := by kernel_rfl
set_option maxHeartbeats 8000000 in
set_option maxRecDepth 100000 in
theorem lockkeeperlaw8_AskModes.calls (k : Nat) (a0 : Bool) (a1 : Int) (a2 : Bool) (a3 : Bool) (r : Bool) (w : World) (hM_ : Aside0 (LaidW w)) (hr_ : r = true) (h : lockkeeperlaw8_AskModes.f k a0 a1 a2 a3 = some r) :
  Calls Tryz.prog 3 #[.bool a0, .int .i64 a1, .bool a2, .bool a3] w fun e w' => e = .returned (.bool r) ∧ Below w.heap.size w w' := by
 have hu26 := Tryz.underlying26
 have hu28 := Tryz.underlying28
 have HB := Aside0.mk (Below.refl w.heap.size w)
 have H : ((lockkeeperlaw0_Low.f a1 3).bind fun t1 => (if a0 = true then (lockkeeperlaw8_AskModes.j0 k a0 a2 a3 (⟨#[71, 69, 84]⟩ : ByteArray) (⟨#[104, 116, 116, 112, 115, 58, 47, 47, 97, 46, 98, 58, 52, 52, 52, 47, 120]⟩ : ByteArray) (⟨#[104, 116, 116, 112, 115, 58, 47, 47, 97, 46, 98]⟩ : ByteArray) (wrap64 (1 + t1)) false 2 0 0 0) else (lockkeeperlaw8_AskModes.j0 k a0 a2 a3 (⟨#[71, 69, 84]⟩ : ByteArray) (⟨#[104, 116, 116, 112, 115, 58, 47, 47, 97, 46, 98, 47, 120]⟩ : ByteArray) (⟨#[104, 116, 116, 112, 115, 58, 47, 47, 97, 46, 98]⟩ : ByteArray) (wrap64 (1 + t1)) false 2 0 0 0))) = some r := h
 clear h
 replace H := bd_ H; obtain ⟨t1, A1, H⟩ := H
 have HC2 := Aside0.mk H
 clear H
 go_enter Tryz.func3, Tryz.ntmps3
 go_upto_if 15 with (first | ((with_reducible refine gate_callee (f := 12) rfl ?_); refine gL (some 12) Tryz.func12 #[.int .i64 a1, .int .i64 3] ?_; (with_reducible refine (lockkeeperlaw0_Low.calls a1 3 t1 _ A1.out).mono ?_); rintro e w' ⟨rfl, ⟨nd, rfl⟩⟩; refine ⟨_, rfl, ?_⟩) | ((with_reducible refine gate_dst (N := 9) rfl ?_); refine bxE (N := 9) (cs := #[.string (⟨#[]⟩ : ByteArray), .string (⟨#[]⟩ : ByteArray), .string (⟨#[]⟩ : ByteArray), .int .i64 0, .bool false, .slice none 0 0, .int .i64 0, .int .u64 0, .int .i64 0, .int .i64 0]) (t := 26) fun gb2a1 hg w2a2 hbox hb => ?_; obtain ⟨HB', BK2a1, GW2a1⟩ := bx_ bE hg hbox hb; have GE2a1 := GW2a1; clear HB hb hbox hg; have HB := HB'; clear HB'; obtain ⟨hcz2a3_0, hcz2a3_1, hcz2a3_2, hcz2a3_3, hcz2a3_4, hcz2a3_5, hcz2a3_6, hcz2a3_7, hcz2a3_8, hcz2a3_9, hfz2a3_0, hfz2a3_1, hfz2a3_2, hfz2a3_3, hfz2a3_4, hfz2a3_5, hfz2a3_6, hfz2a3_7, hfz2a3_8, hfz2a3_9⟩ := bk10_ BK2a1))
 (try simp only [Act.put, List.setIfInBounds_toArray, List.set_cons_zero, List.set_cons_succ])
 go_cut [] (fun wc => ∃ (kq : Nat) (x340001_5 : ByteArray), Aside0 (lockkeeperlaw8_AskModes.j0 kq a0 a2 a3 (⟨#[71, 69, 84]⟩ : ByteArray) x340001_5 (⟨#[104, 116, 116, 112, 115, 58, 47, 47, 97, 46, 98]⟩ : ByteArray) (wrap64 (1 + t1)) false 2 0 0 0 = some r) ∧ Aside0 (kq ≤ k) ∧ Aside0 (wc.heap[gb2a1]? = some (.cells #[.string (⟨#[71, 69, 84]⟩ : ByteArray), .string x340001_5, .string (⟨#[104, 116, 116, 112, 115, 58, 47, 47, 97, 46, 98]⟩ : ByteArray), .int .i64 (wrap64 (1 + t1)), .bool false, (.slice none 0 0), .int .i64 2, .int .u64 0, .int .i64 0, .int .i64 0] 26 (0, 0))) ∧ Aside0 (Below w.heap.size w wc))
 case first =>
  have H := HC2.out
  clear HC2
  refine Or.elim (Classical.em (a0 = true)) (fun c3 => ?g1p) (fun c3 => ?g1n)
  case' g1p =>
   subst c3
   replace H := ifT_ H
   have H' := Aside0.mk H
   clear H
   obtain ⟨hcz4_0, hcz4_1, hcz4_2, hcz4_3, hcz4_4, hcz4_5, hcz4_6, hcz4_7, hcz4_8, hcz4_9, hfz4_0, hfz4_1, hfz4_2, hfz4_3, hfz4_4, hfz4_5, hfz4_6, hfz4_7, hfz4_8, hfz4_9⟩ := bk10_ BK2a1
   have M2_0 := trivial
  case' g1n =>
   replace c3 := Bool.eq_false_iff.mpr c3
   subst c3
   replace H := ifF_ H
   have H' := Aside0.mk H
   clear H
   have M2_1 := trivial
  all_goals
   go_wp2
   go_meet
   first
   | clear M2_0
     case rel => exact ⟨_, ((⟨#[104, 116, 116, 112, 115, 58, 47, 47, 97, 46, 98, 58, 52, 52, 52, 47, 120]⟩ : ByteArray)), H', ⟨oE⟩, ⟨kT⟩, ⟨bE⟩⟩
   | clear M2_1
     case rel => exact ⟨_, ((⟨#[104, 116, 116, 112, 115, 58, 47, 47, 97, 46, 98, 47, 120]⟩ : ByteArray)), H', ⟨oE⟩, ⟨kT⟩, ⟨bE⟩⟩
 case rest =>
  clear HC2
  try clear c3
  try clear hcz2a3_0
  try clear hcz2a3_1
  try clear hcz2a3_2
  try clear hcz2a3_3
  try clear hcz2a3_4
  try clear hcz2a3_5
  try clear hcz2a3_6
  try clear hcz2a3_7
  try clear hcz2a3_8
  try clear hcz2a3_9
  try clear hfz2a3_0
  try clear hfz2a3_1
  try clear hfz2a3_2
  try clear hfz2a3_3
  try clear hfz2a3_4
  try clear hfz2a3_5
  try clear hfz2a3_6
  try clear hfz2a3_7
  try clear hfz2a3_8
  try clear hfz2a3_9
  obtain ⟨kq, x340001_5, HA, HJ5, BK2a1, HB⟩ := hcut
  cases kq with
  | zero => exact absurd HA.out (by simp [lockkeeperlaw8_AskModes.j0])
  | succ kj5 =>
   have H := HA.out
   clear HA
   simp only [lockkeeperlaw8_AskModes.j0] at H
   have HC8 := Aside0.mk H
   clear H
   go_upto_if 17 with (first | (fail))
   go_cut [] (fun wc => ∃ (kq : Nat) (x340000_10 : ByteArray), Aside0 (lockkeeperlaw8_AskModes.j1 kq a0 a2 a3 x340000_10 x340001_5 (⟨#[104, 116, 116, 112, 115, 58, 47, 47, 97, 46, 98]⟩ : ByteArray) (wrap64 (1 + t1)) false 2 0 0 0 = some r) ∧ Aside0 (kq ≤ kj5) ∧ Aside0 (wc.heap[gb2a1]? = some (.cells #[.string x340000_10, .string x340001_5, .string (⟨#[104, 116, 116, 112, 115, 58, 47, 47, 97, 46, 98]⟩ : ByteArray), .int .i64 (wrap64 (1 + t1)), .bool false, (.slice none 0 0), .int .i64 2, .int .u64 0, .int .i64 0, .int .i64 0] 26 (0, 0))) ∧ Aside0 (Below w.heap.size w wc))
   case first =>
    have H := HC8.out
    clear HC8
    refine Or.elim (Classical.em (a2 = true)) (fun c9 => ?g3p) (fun c9 => ?g3n)
    case' g3p =>
     subst c9
     replace H := ifT_ H
     have H' := Aside0.mk H
     clear H
     obtain ⟨hcz10_0, hcz10_1, hcz10_2, hcz10_3, hcz10_4, hcz10_5, hcz10_6, hcz10_7, hcz10_8, hcz10_9, hfz10_0, hfz10_1, hfz10_2, hfz10_3, hfz10_4, hfz10_5, hfz10_6, hfz10_7, hfz10_8, hfz10_9⟩ := bk10_ BK2a1
     have M4_0 := trivial
    case' g3n =>
     replace c9 := Bool.eq_false_iff.mpr c9
     subst c9
     replace H := ifF_ H
     have H' := Aside0.mk H
     clear H
     have M4_1 := trivial
    all_goals
     go_wp2
     go_meet
     first
     | clear M4_0
       case rel => exact ⟨_, ((⟨#[112, 117, 116]⟩ : ByteArray)), H', ⟨by have := HJ5.out; first | omega | exact Nat.le_refl _⟩, ⟨kT⟩, ⟨bE⟩⟩
     | clear M4_1
       case rel => exact ⟨_, ((⟨#[71, 69, 84]⟩ : ByteArray)), H', ⟨by have := HJ5.out; first | omega | exact Nat.le_refl _⟩, ⟨kC BK2a1⟩, ⟨bE⟩⟩
   case rest =>
    clear HC8
    try clear c3
    try clear c9
    try clear hcz10_0
    try clear hcz10_1
    try clear hcz10_2
    try clear hcz10_3
    try clear hcz10_4
    try clear hcz10_5
    try clear hcz10_6
    try clear hcz10_7
    try clear hcz10_8
    try clear hcz10_9
    try clear hcz2a3_0
    try clear hcz2a3_1
    try clear hcz2a3_2
    try clear hcz2a3_3
    try clear hcz2a3_4
    try clear hcz2a3_5
    try clear hcz2a3_6
    try clear hcz2a3_7
    try clear hcz2a3_8
    try clear hcz2a3_9
    try clear hfz10_0
    try clear hfz10_1
    try clear hfz10_2
    try clear hfz10_3
    try clear hfz10_4
    try clear hfz10_5
    try clear hfz10_6
    try clear hfz10_7
    try clear hfz10_8
    try clear hfz10_9
    try clear hfz2a3_0
    try clear hfz2a3_1
    try clear hfz2a3_2
    try clear hfz2a3_3
    try clear hfz2a3_4
    try clear hfz2a3_5
    try clear hfz2a3_6
    try clear hfz2a3_7
    try clear hfz2a3_8
    try clear hfz2a3_9
    obtain ⟨kq, x340000_10, HA, HJ10, BK2a1, HB⟩ := hcut
    cases kq with
    | zero => exact absurd HA.out (by simp [lockkeeperlaw8_AskModes.j1])
    | succ kj10 =>
     have H := HA.out
     clear HA
     simp only [lockkeeperlaw8_AskModes.j1] at H
     have HC11 := Aside0.mk H
     clear H
     go_upto_if 19 with (first | (fail))
     go_cut [] (fun wc => ∃ (kq : Nat) (x340005_13 : List (S28)) (u340005 : Value), Aside0 (lockkeeperlaw8_AskModes.j2 kq a0 a2 a3 x340000_10 x340001_5 (⟨#[104, 116, 116, 112, 115, 58, 47, 47, 97, 46, 98]⟩ : ByteArray) (wrap64 (1 + t1)) false x340005_13 2 0 0 0 = some r) ∧ Aside0 (kq ≤ kj10) ∧ Aside0 (Kd.R k28 28 wc w.heap.size (fun _ => True) u340005 x340005_13) ∧ Aside0 (wc.heap[gb2a1]? = some (.cells #[.string x340000_10, .string x340001_5, .string (⟨#[104, 116, 116, 112, 115, 58, 47, 47, 97, 46, 98]⟩ : ByteArray), .int .i64 (wrap64 (1 + t1)), .bool false, u340005, .int .i64 2, .int .u64 0, .int .i64 0, .int .i64 0] 26 (0, 0))) ∧ Aside0 (Below w.heap.size w wc))
     case first =>
      have H := HC11.out
      clear HC11
      refine Or.elim (Classical.em (a3 = true)) (fun c12 => ?g5p) (fun c12 => ?g5n)
      case' g5p =>
       subst c12
       replace H := ifT_ H
       obtain ⟨y13, hy13⟩ : ∃ y_ : List (S28), y_ = (([(⟨(⟨#[88, 45, 79, 119, 110]⟩ : ByteArray), (⟨#[49]⟩ : ByteArray)⟩ : S28)] : List (S28))) := ⟨_, rfl⟩
       replace H : (lockkeeperlaw8_AskModes.j2 kj10 a0 a2 true x340000_10 x340001_5 (⟨#[104, 116, 116, 112, 115, 58, 47, 47, 97, 46, 98]⟩ : ByteArray) (wrap64 (1 + t1)) false y13 2 0 0 0) = some r := by first | (rw [hy13]; with_reducible exact H) | (have H2_ := (Option.bind_some _ _).symm.trans H; rw [hy13]; with_reducible exact H2_) | (have H2_ := (Option.bind_some _ _).symm.trans H; with_reducible exact H2_) | with_reducible exact H | (rw [hy13]; exact H) | exact H
       have Ny13 := Aside0.mk hy13
       clear hy13
       have H' := Aside0.mk H
       clear H
       have M6_0 := trivial
      case' g5n =>
       replace c12 := Bool.eq_false_iff.mpr c12
       subst c12
       replace H := ifF_ H
       have H' := Aside0.mk H
       clear H
       have M6_1 := trivial
      all_goals
       go_wp2_with (first | ((with_reducible refine gate_dst (N := 21) rfl ?_); refine Kd.R_lit k28 _ 28 ?hg (N := 21) ?hd (xs := ([(⟨(⟨#[88, 45, 79, 119, 110]⟩ : ByteArray), (⟨#[49]⟩ : ByteArray)⟩ : S28)] : List (S28))) (inner := [.string (⟨#[88, 45, 79, 119, 110]⟩ : ByteArray), .string (⟨#[49]⟩ : ByteArray)]) (ok := fun _ => True) (okp := fun _ => True) ?hr ?hp (fun _ hk => hk) trivial (Below.refl _ _) (Nat.le_refl _) (by simp) ?_; (case hd => rfl); (case hg => rfl); (case hr => first | (go_simp; done) | (go_simp; rfl)); (case hp => exact (Reps.c2 (show Kd.M k28 _ _ _ (⟨(⟨#[88, 45, 79, 119, 110]⟩ : ByteArray), (⟨#[49]⟩ : ByteArray)⟩ : S28) [.string (⟨#[88, 45, 79, 119, 110]⟩ : ByteArray), .string (⟨#[49]⟩ : ByteArray)] from (k28_mkM _ _ _ (⟨(⟨#[88, 45, 79, 119, 110]⟩ : ByteArray), (⟨#[49]⟩ : ByteArray)⟩ : S28) )) (Reps.none _ _))); intro v4a1 w4a2 ho4a3 hb hg_ hnew_; clear hg_ hnew_; (first | rw [← Ny13.out] at ho4a3 | (simp only [Int.reduceToNat] at ho4a3; rw [← Ny13.out] at ho4a3)); have n0_ := Aside0.mk (Kd.R_lower ho4a3 (below_size bE)); have n1_ := kM BK2a1 hb; have n2_ := bS bE hb; clear BK2a1; clear HB; have HO4a4 := n0_; have BK2a1 := n1_; have HB := n2_; clear n0_ n1_ n2_; clear hb ho4a3; obtain ⟨Ao4a5, co4a5, eo4a5⟩ := Kd.R_slice HO4a4.out; subst eo4a5; obtain ⟨hcz4a6_0, hcz4a6_1, hcz4a6_2, hcz4a6_3, hcz4a6_4, hcz4a6_5, hcz4a6_6, hcz4a6_7, hcz4a6_8, hcz4a6_9, hfz4a6_0, hfz4a6_1, hfz4a6_2, hfz4a6_3, hfz4a6_4, hfz4a6_5, hfz4a6_6, hfz4a6_7, hfz4a6_8, hfz4a6_9⟩ := bk10_ BK2a1))
       go_meet
       first
       | clear M6_0
         case rel => exact ⟨_, (y13), (.slice Ao4a5 y13.length co4a5), H', ⟨by have := HJ5.out; have := HJ10.out; first | omega | exact Nat.le_refl _⟩, ⟨by (with_reducible repeat (first | apply Kd.R_alloc | apply Kd.R_drewN | apply Kd.R_drew)); exact Kd.R_mono (Kd.R_far (p := ⟨gb2a1, 5, none⟩) (Kd.R_types HO4a4.out BK2a1.out (by decide)) (fun _ hk => hk.2) (.slice Ao4a5 y13.length co4a5)) (fun _ hk => trivial)⟩, ⟨kT⟩, ⟨bE⟩⟩
       | clear M6_1
         case rel => exact ⟨_, (([] : List (S28))), (.slice none 0 0), H', ⟨by have := HJ5.out; have := HJ10.out; first | omega | exact Nat.le_refl _⟩, ⟨by first | exact Kd.R_nil _ _ _ _ _ | exact Kd.N_nil _ _ _ _ _ | exact Kd.V_nil _ _ _ _ _ | exact Kd.Q_nil _ _ _ _ _ | exact Kd.S_nil _ _ _ _ _⟩, ⟨kC BK2a1⟩, ⟨bE⟩⟩
     case rest =>
      clear HC11
      try clear c3
      try clear c9
      try clear c12
      try clear hcz10_0
      try clear hcz10_1
      try clear hcz10_2
      try clear hcz10_3
      try clear hcz10_4
      try clear hcz10_5
      try clear hcz10_6
      try clear hcz10_7
      try clear hcz10_8
      try clear hcz10_9
      try clear hcz2a3_0
      try clear hcz2a3_1
      try clear hcz2a3_2
      try clear hcz2a3_3
      try clear hcz2a3_4
      try clear hcz2a3_5
      try clear hcz2a3_6
      try clear hcz2a3_7
      try clear hcz2a3_8
      try clear hcz2a3_9
      try clear hfz10_0
      try clear hfz10_1
      try clear hfz10_2
      try clear hfz10_3
      try clear hfz10_4
      try clear hfz10_5
      try clear hfz10_6
      try clear hfz10_7
      try clear hfz10_8
      try clear hfz10_9
      try clear hfz2a3_0
      try clear hfz2a3_1
      try clear hfz2a3_2
      try clear hfz2a3_3
      try clear hfz2a3_4
      try clear hfz2a3_5
      try clear hfz2a3_6
      try clear hfz2a3_7
      try clear hfz2a3_8
      try clear hfz2a3_9
      obtain ⟨kq, x340005_13, u340005, HA, HJ13, HO_340005, BK2a1, HB⟩ := hcut
      cases kq with
      | zero => exact absurd HA.out (by simp [lockkeeperlaw8_AskModes.j2])
      | succ kj13 =>
       have H := HA.out
       clear HA
       simp only [lockkeeperlaw8_AskModes.j2] at H
       have HC14 := Aside0.mk H
       clear H
       go_upto_region 8 with (first | (fail))
       go_cut [10] (fun v16s1 wc => ∃ (kq : Nat) (x10_19 : Bool), v16s1 = .bool x10_19 ∧ Aside0 (lockkeeperlaw8_AskModes.j3 kq a0 a2 a3 x10_19 x340000_10 x340001_5 (⟨#[104, 116, 116, 112, 115, 58, 47, 47, 97, 46, 98]⟩ : ByteArray) (wrap64 (1 + t1)) false x340005_13 2 0 0 0 = some r) ∧ Aside0 (kq ≤ kj13) ∧ Aside0 (Kd.R k28 28 wc w.heap.size (fun _ => True) u340005 x340005_13) ∧ Aside0 (wc.heap[gb2a1]? = some (.cells #[.string x340000_10, .string x340001_5, .string (⟨#[104, 116, 116, 112, 115, 58, 47, 47, 97, 46, 98]⟩ : ByteArray), .int .i64 (wrap64 (1 + t1)), .bool false, u340005, .int .i64 2, .int .u64 0, .int .i64 0, .int .i64 0] 26 (0, 0))) ∧ Aside0 (Below w.heap.size w wc))
       case first =>
        have H := HC14.out
        clear HC14
        refine Or.elim (Classical.em ((wrap64 (1 + t1)) = 1)) (fun c15 => ?g7p) (fun c15 => ?g7n)
        case' g7p =>
         rw [if_pos c15] at H
         have c15b0 : ((wrap64 (1 + t1)) == 1) = true := beq_iff_eq.mpr c15
         have c15b1 : ((wrap64 (1 + t1)) != 1) = false := bne_eq_false_iff_eq.mpr c15
         clear c15
         (first | rw [c15b0] | (simp only [i64_w, i32_w]; rw [c15b0]) | skip)
         refine Or.elim (Classical.em (a0 = true)) (fun c16 => ?g8p) (fun c16 => ?g8n)
         case' g8p =>
          subst c16
          replace H := ifT_ H
          have H' := Aside0.mk H
          clear H
          obtain ⟨hcz17_0, hcz17_1, hcz17_2, hcz17_3, hcz17_4, hcz17_5, hcz17_6, hcz17_7, hcz17_8, hcz17_9, hfz17_0, hfz17_1, hfz17_2, hfz17_3, hfz17_4, hfz17_5, hfz17_6, hfz17_7, hfz17_8, hfz17_9⟩ := bk10_ BK2a1
          have M13_0 := trivial
         case' g8n =>
          replace c16 := Bool.eq_false_iff.mpr c16
          subst c16
          replace H := ifF_ H
          refine Or.elim (Classical.em ((wrap64 (1 + t1)) = 2)) (fun c17 => ?g9p) (fun c17 => ?g9n)
          case' g9p =>
           rw [if_pos c17] at H
           have c17b0 : ((wrap64 (1 + t1)) == 2) = true := beq_iff_eq.mpr c17
           have c17b1 : ((wrap64 (1 + t1)) != 2) = false := bne_eq_false_iff_eq.mpr c17
           clear c17
           refine Or.elim (Classical.em (a2 = true)) (fun c18 => ?g10p) (fun c18 => ?g10n)
           case' g10p =>
            subst c18
            replace H := ifT_ H
            have H' := Aside0.mk H
            clear H
            obtain ⟨hcz19_0, hcz19_1, hcz19_2, hcz19_3, hcz19_4, hcz19_5, hcz19_6, hcz19_7, hcz19_8, hcz19_9, hfz19_0, hfz19_1, hfz19_2, hfz19_3, hfz19_4, hfz19_5, hfz19_6, hfz19_7, hfz19_8, hfz19_9⟩ := bk10_ BK2a1
            have M13_0 := trivial
           case' g10n =>
            replace c18 := Bool.eq_false_iff.mpr c18
            subst c18
            replace H := ifF_ H
            have H' := Aside0.mk H
            clear H
            obtain ⟨hcz19_0, hcz19_1, hcz19_2, hcz19_3, hcz19_4, hcz19_5, hcz19_6, hcz19_7, hcz19_8, hcz19_9, hfz19_0, hfz19_1, hfz19_2, hfz19_3, hfz19_4, hfz19_5, hfz19_6, hfz19_7, hfz19_8, hfz19_9⟩ := bk10_ BK2a1
            have M13_1 := trivial
          case' g9n =>
           rw [if_neg c17] at H
           have c17b0 : ((wrap64 (1 + t1)) == 2) = false := beq_eq_false_iff_ne.mpr c17
           have c17b1 : ((wrap64 (1 + t1)) != 2) = true := bne_iff_ne.mpr c17
           have H' := Aside0.mk H
           clear H
           obtain ⟨hcz18_0, hcz18_1, hcz18_2, hcz18_3, hcz18_4, hcz18_5, hcz18_6, hcz18_7, hcz18_8, hcz18_9, hfz18_0, hfz18_1, hfz18_2, hfz18_3, hfz18_4, hfz18_5, hfz18_6, hfz18_7, hfz18_8, hfz18_9⟩ := bk10_ BK2a1
           have M13_2 := trivial
        case' g7n =>
         rw [if_neg c15] at H
         have c15b0 : ((wrap64 (1 + t1)) == 1) = false := beq_eq_false_iff_ne.mpr c15
         have c15b1 : ((wrap64 (1 + t1)) != 1) = true := bne_iff_ne.mpr c15
         (first | rw [c15b0] | (simp only [i64_w, i32_w]; rw [c15b0]) | skip)
         refine Or.elim (Classical.em ((wrap64 (1 + t1)) = 2)) (fun c16 => ?g11p) (fun c16 => ?g11n)
         case' g11p =>
          rw [if_pos c16] at H
          have c16b0 : ((wrap64 (1 + t1)) == 2) = true := beq_iff_eq.mpr c16
          have c16b1 : ((wrap64 (1 + t1)) != 2) = false := bne_eq_false_iff_eq.mpr c16
          clear c16
          refine Or.elim (Classical.em (a2 = true)) (fun c17 => ?g12p) (fun c17 => ?g12n)
          case' g12p =>
           subst c17
           replace H := ifT_ H
           have H' := Aside0.mk H
           clear H
           obtain ⟨hcz18_0, hcz18_1, hcz18_2, hcz18_3, hcz18_4, hcz18_5, hcz18_6, hcz18_7, hcz18_8, hcz18_9, hfz18_0, hfz18_1, hfz18_2, hfz18_3, hfz18_4, hfz18_5, hfz18_6, hfz18_7, hfz18_8, hfz18_9⟩ := bk10_ BK2a1
           have M13_0 := trivial
          case' g12n =>
           replace c17 := Bool.eq_false_iff.mpr c17
           subst c17
           replace H := ifF_ H
           have H' := Aside0.mk H
           clear H
           obtain ⟨hcz18_0, hcz18_1, hcz18_2, hcz18_3, hcz18_4, hcz18_5, hcz18_6, hcz18_7, hcz18_8, hcz18_9, hfz18_0, hfz18_1, hfz18_2, hfz18_3, hfz18_4, hfz18_5, hfz18_6, hfz18_7, hfz18_8, hfz18_9⟩ := bk10_ BK2a1
           have M13_1 := trivial
         case' g11n =>
          rw [if_neg c16] at H
          have c16b0 : ((wrap64 (1 + t1)) == 2) = false := beq_eq_false_iff_ne.mpr c16
          have c16b1 : ((wrap64 (1 + t1)) != 2) = true := bne_iff_ne.mpr c16
          have H' := Aside0.mk H
          clear H
          obtain ⟨hcz17_0, hcz17_1, hcz17_2, hcz17_3, hcz17_4, hcz17_5, hcz17_6, hcz17_7, hcz17_8, hcz17_9, hfz17_0, hfz17_1, hfz17_2, hfz17_3, hfz17_4, hfz17_5, hfz17_6, hfz17_7, hfz17_8, hfz17_9⟩ := bk10_ BK2a1
          have M13_2 := trivial
        all_goals
         go_wp2
         go_meet
         first
         | clear M13_0
           case rel => exact ⟨_, (true), rS, H', ⟨by have := HJ5.out; have := HJ10.out; have := HJ13.out; first | omega | exact Nat.le_refl _⟩, ⟨by (with_reducible repeat (first | apply Kd.R_alloc | apply Kd.R_drewN | apply Kd.R_drew)); exact HO_340005.out⟩, ⟨kC BK2a1⟩, ⟨bE⟩⟩
         | clear M13_1
           case rel => exact ⟨_, (a3), rS, H', ⟨by have := HJ5.out; have := HJ10.out; have := HJ13.out; first | omega | exact Nat.le_refl _⟩, ⟨by (with_reducible repeat (first | apply Kd.R_alloc | apply Kd.R_drewN | apply Kd.R_drew)); exact HO_340005.out⟩, ⟨kC BK2a1⟩, ⟨bE⟩⟩
         | clear M13_2
           case rel => exact ⟨_, (false), rS, H', ⟨by have := HJ5.out; have := HJ10.out; have := HJ13.out; first | omega | exact Nat.le_refl _⟩, ⟨by (with_reducible repeat (first | apply Kd.R_alloc | apply Kd.R_drewN | apply Kd.R_drew)); exact HO_340005.out⟩, ⟨kC BK2a1⟩, ⟨bE⟩⟩
       case rest =>
        clear HC14
        try clear c3
        try clear c9
        try clear c12
        try clear c15
        try clear c15b0
        try clear c15b1
        try clear c16
        try clear c17
        try clear c17b0
        try clear c17b1
        try clear c18
        try clear hcz10_0
        try clear hcz10_1
        try clear hcz10_2
        try clear hcz10_3
        try clear hcz10_4
        try clear hcz10_5
        try clear hcz10_6
        try clear hcz10_7
        try clear hcz10_8
        try clear hcz10_9
        try clear hcz2a3_0
        try clear hcz2a3_1
        try clear hcz2a3_2
        try clear hcz2a3_3
        try clear hcz2a3_4
        try clear hcz2a3_5
        try clear hcz2a3_6
        try clear hcz2a3_7
        try clear hcz2a3_8
        try clear hcz2a3_9
        try clear hfz10_0
        try clear hfz10_1
        try clear hfz10_2
        try clear hfz10_3
        try clear hfz10_4
        try clear hfz10_5
        try clear hfz10_6
        try clear hfz10_7
        try clear hfz10_8
        try clear hfz10_9
        try clear hfz2a3_0
        try clear hfz2a3_1
        try clear hfz2a3_2
        try clear hfz2a3_3
        try clear hfz2a3_4
        try clear hfz2a3_5
        try clear hfz2a3_6
        try clear hfz2a3_7
        try clear hfz2a3_8
        try clear hfz2a3_9
        obtain ⟨kq, x10_19, rfl, HA, HJ19, HO_340005, BK2a1, HB⟩ := hcut
        cases kq with
        | zero => exact absurd HA.out (by simp [lockkeeperlaw8_AskModes.j3])
        | succ kj19 =>
         have H := HA.out
         clear HA
         simp only [lockkeeperlaw8_AskModes.j3] at H
         refine Or.elim (Classical.em (x10_19 = true)) (fun c28 => ?g14p) (fun c28 => ?g14n)
         case' g14p =>
          subst c28
          replace H := ifT_ H
          replace H := bd_ H; obtain ⟨t2, A29, H⟩ := H
          refine Or.elim (Classical.em (t2 = 7)) (fun c30 => ?g15p) (fun c30 => ?g15n)
          case' g15p =>
           rw [if_pos c30] at H
           have c30b0 : (t2 == 7) = true := beq_iff_eq.mpr c30
           have c30b1 : (t2 != 7) = false := bne_eq_false_iff_eq.mpr c30
           clear c30
           replace H := bd_ H; obtain ⟨t3, A31, H⟩ := H
           refine Or.elim (Classical.em (t3 = true)) (fun c32 => ?g16p) (fun c32 => ?g16n)
           case g16p =>
            subst c32
            replace H := ifT_ H
            exact absurd ((Option.some.inj H).trans hr_) (by decide)
           case' g16n =>
            replace c32 := Bool.eq_false_iff.mpr c32
            subst c32
            replace H := ifF_ H
            replace H := bd_ H; obtain ⟨t4, A33, H⟩ := H
            clear hr_
            obtain rfl := Option.some.inj H
            obtain ⟨hcz34_0, hcz34_1, hcz34_2, hcz34_3, hcz34_4, hcz34_5, hcz34_6, hcz34_7, hcz34_8, hcz34_9, hfz34_0, hfz34_1, hfz34_2, hfz34_3, hfz34_4, hfz34_5, hfz34_6, hfz34_7, hfz34_8, hfz34_9⟩ := bk10_ BK2a1
            obtain ⟨Ao5, co5, eo5⟩ := Kd.R_slice HO_340005.out
            subst eo5
            have M26_0 := trivial
          case g15n =>
           rw [if_neg c30] at H
           have c30b0 : (t2 == 7) = false := beq_eq_false_iff_ne.mpr c30
           have c30b1 : (t2 != 7) = true := bne_iff_ne.mpr c30
           exact absurd ((Option.some.inj H).trans hr_) (by decide)
         case' g14n =>
          replace c28 := Bool.eq_false_iff.mpr c28
          subst c28
          replace H := ifF_ H
          replace H := bd_ H; obtain ⟨t2, A29, H⟩ := H
          refine Or.elim (Classical.em (t2 = 0)) (fun c30 => ?g17p) (fun c30 => ?g17n)
          case' g17p =>
           rw [if_pos c30] at H
           have c30b0 : (t2 == 0) = true := beq_iff_eq.mpr c30
           have c30b1 : (t2 != 0) = false := bne_eq_false_iff_eq.mpr c30
           clear c30
           replace H := bd_ H; obtain ⟨t3, A31, H⟩ := H
           refine Or.elim (Classical.em ((t3 == a0) = true)) (fun c32 => ?g18p) (fun c32 => ?g18n)
           case' g18p =>
            rw [if_pos c32] at H
            have c32b0 : (t3 == a0) = true := c32
            (try (have c32b1 : decide (t3 = a0) = true := by simpa using c32))
            (try (have c32b2 : (t3 == a0) = true := by simpa using c32))
            clear c32
            replace H := bd_ H; obtain ⟨t4, A33, H⟩ := H
            refine Or.elim (Classical.em ((wrap64 (1 + t1)) = 3)) (fun c34 => ?g19p) (fun c34 => ?g19n)
            case' g19p =>
             rw [if_pos c34] at H
             have c34b0 : ((wrap64 (1 + t1)) == 3) = true := beq_iff_eq.mpr c34
             have c34b1 : ((wrap64 (1 + t1)) != 3) = false := bne_eq_false_iff_eq.mpr c34
             clear c34
             refine Or.elim (Classical.em (a0 = true)) (fun c35 => ?g20p) (fun c35 => ?g20n)
             case' g20p =>
              subst c35
              replace H := ifT_ H
              refine Or.elim (Classical.em (a2 = true)) (fun c36 => ?g21p) (fun c36 => ?g21n)
              case' g21p =>
               subst c36
               replace H := ifT_ H
               refine Or.elim (Classical.em ((t4 == true) = true)) (fun c37 => ?g22p) (fun c37 => ?g22n)
               case' g22p =>
                rw [if_pos c37] at H
                have c37b0 : (t4 == true) = true := c37
                try have c37b6 : (t4) = true := by have z_ := c37b0; first | exact z_ | simpa using z_
                try have c37b6 : (t4) = false := by have z_ := c37b0; first | exact z_ | simpa using z_
                (try (have c37b1 : decide (t4 = true) = true := by simpa using c37))
                (try (have c37b2 : (t4 == true) = true := by simpa using c37))
                clear c37
                replace H := bd_ H; obtain ⟨t5, A38, H⟩ := H
                clear hr_
                obtain rfl := Option.some.inj H
                have M26_1 := trivial; have M27_0 := trivial; have M28_0 := trivial; have M29_0 := trivial
               case g22n =>
                rw [if_neg c37] at H
                have c37b0 : (t4 == true) = false := by simpa using c37
                try have c37b6 : (t4) = true := by have z_ := c37b0; first | exact z_ | simpa using z_
                try have c37b6 : (t4) = false := by have z_ := c37b0; first | exact z_ | simpa using z_
                (try (have c37b1 : decide (t4 = true) = false := by simpa using c37))
                (try (have c37b2 : (t4 == true) = false := by simpa using c37))
                (try (have c37b3 : ¬ (t4 = true) := by simpa using c37))
                clear c37
                exact absurd ((Option.some.inj H).trans hr_) (by decide)
              case' g21n =>
               replace c36 := Bool.eq_false_iff.mpr c36
               subst c36
               replace H := ifF_ H
               refine Or.elim (Classical.em ((t4 == a3) = true)) (fun c37 => ?g23p) (fun c37 => ?g23n)
               case' g23p =>
                rw [if_pos c37] at H
                have c37b0 : (t4 == a3) = true := c37
                (try (have c37b1 : decide (t4 = a3) = true := by simpa using c37))
                (try (have c37b2 : (t4 == a3) = true := by simpa using c37))
                clear c37
                replace H := bd_ H; obtain ⟨t5, A38, H⟩ := H
                clear hr_
                obtain rfl := Option.some.inj H
                have M26_1 := trivial; have M27_0 := trivial; have M28_0 := trivial; have M29_1 := trivial
               case g23n =>
                rw [if_neg c37] at H
                have c37b0 : (t4 == a3) = false := by simpa using c37
                (try (have c37b1 : decide (t4 = a3) = false := by simpa using c37))
                (try (have c37b2 : (t4 == a3) = false := by simpa using c37))
                (try (have c37b3 : ¬ (t4 = a3) := by simpa using c37))
                clear c37
                exact absurd ((Option.some.inj H).trans hr_) (by decide)
             case' g20n =>
              replace c35 := Bool.eq_false_iff.mpr c35
              subst c35
              replace H := ifF_ H
              refine Or.elim (Classical.em ((t4 == false) = true)) (fun c36 => ?g24p) (fun c36 => ?g24n)
              case' g24p =>
               rw [if_pos c36] at H
               have c36b0 : (t4 == false) = true := c36
               try have c36b6 : (t4) = true := by have z_ := c36b0; first | exact z_ | simpa using z_
               try have c36b6 : (t4) = false := by have z_ := c36b0; first | exact z_ | simpa using z_
               (try (have c36b1 : decide (t4 = false) = true := by simpa using c36))
               (try (have c36b2 : (t4 == false) = true := by simpa using c36))
               clear c36
               replace H := bd_ H; obtain ⟨t5, A37, H⟩ := H
               clear hr_
               obtain rfl := Option.some.inj H
               have M26_1 := trivial; have M27_0 := trivial; have M28_1 := trivial
              case g24n =>
               rw [if_neg c36] at H
               have c36b0 : (t4 == false) = false := by simpa using c36
               try have c36b6 : (t4) = true := by have z_ := c36b0; first | exact z_ | simpa using z_
               try have c36b6 : (t4) = false := by have z_ := c36b0; first | exact z_ | simpa using z_
               (try (have c36b1 : decide (t4 = false) = false := by simpa using c36))
               (try (have c36b2 : (t4 == false) = false := by simpa using c36))
               (try (have c36b3 : ¬ (t4 = false) := by simpa using c36))
               clear c36
               exact absurd ((Option.some.inj H).trans hr_) (by decide)
            case' g19n =>
             rw [if_neg c34] at H
             have c34b0 : ((wrap64 (1 + t1)) == 3) = false := beq_eq_false_iff_ne.mpr c34
             have c34b1 : ((wrap64 (1 + t1)) != 3) = true := bne_iff_ne.mpr c34
             refine Or.elim (Classical.em ((t4 == false) = true)) (fun c35 => ?g25p) (fun c35 => ?g25n)
             case' g25p =>
              rw [if_pos c35] at H
              have c35b0 : (t4 == false) = true := c35
              try have c35b6 : (t4) = true := by have z_ := c35b0; first | exact z_ | simpa using z_
              try have c35b6 : (t4) = false := by have z_ := c35b0; first | exact z_ | simpa using z_
              (try (have c35b1 : decide (t4 = false) = true := by simpa using c35))
              (try (have c35b2 : (t4 == false) = true := by simpa using c35))
              clear c35
              replace H := bd_ H; obtain ⟨t5, A36, H⟩ := H
              clear hr_
              obtain rfl := Option.some.inj H
              have M26_1 := trivial; have M27_1 := trivial; have M30_0 := trivial
             case' g25n =>
              rw [if_neg c35] at H
              have c35b0 : (t4 == false) = false := by simpa using c35
              try have c35b6 : (t4) = true := by have z_ := c35b0; first | exact z_ | simpa using z_
              try have c35b6 : (t4) = false := by have z_ := c35b0; first | exact z_ | simpa using z_
              (try (have c35b1 : decide (t4 = false) = false := by simpa using c35))
              (try (have c35b2 : (t4 == false) = false := by simpa using c35))
              (try (have c35b3 : ¬ (t4 = false) := by simpa using c35))
              clear c35
              clear hr_
              obtain rfl := Option.some.inj H
              have M26_1 := trivial; have M27_1 := trivial; have M30_1 := trivial
           case g18n =>
            rw [if_neg c32] at H
            have c32b0 : (t3 == a0) = false := by simpa using c32
            (try (have c32b1 : decide (t3 = a0) = false := by simpa using c32))
            (try (have c32b2 : (t3 == a0) = false := by simpa using c32))
            (try (have c32b3 : ¬ (t3 = a0) := by simpa using c32))
            clear c32
            exact absurd ((Option.some.inj H).trans hr_) (by decide)
          case g17n =>
           rw [if_neg c30] at H
           have c30b0 : (t2 == 0) = false := beq_eq_false_iff_ne.mpr c30
           have c30b1 : (t2 != 0) = true := bne_iff_ne.mpr c30
           exact absurd ((Option.some.inj H).trans hr_) (by decide)
         all_goals
          try go_wp2_with (first | ((with_reducible refine gate_callee (f := 13) rfl ?_); refine gL (some 42) Tryz.func13 #[.agg #[.string x340000_10, .string x340001_5, .string (⟨#[104, 116, 116, 112, 115, 58, 47, 47, 97, 46, 98]⟩ : ByteArray), .int .i64 (wrap64 (1 + t1)), .bool false, .slice Ao5 x340005_13.length co5, .int .i64 2, .int .u64 0, .int .i64 0, .int .i64 0]] ?_; (with_reducible refine (ask_Check.calls kj19 x340000_10 x340001_5 (⟨#[104, 116, 116, 112, 115, 58, 47, 47, 97, 46, 98]⟩ : ByteArray) (wrap64 (1 + t1)) false _ _ x340005_13 2 0 0 0 t2 _ ?side1 ?side2 ?side3 A29.out).mono ?_); (case side1 => repeat (first | exact (Kd.R_reads' HO_340005.out).2.2 | (with_reducible refine Kd.C_alloc ?_ _) | (with_reducible refine Kd.C_drewN ?_ _) | (with_reducible refine Kd.C_drew ?_))); (case side2 => exact (Kd.R_reads' HO_340005.out).2.1); (case side3 => exact ⟨lE⟩); rintro e w5a1 ⟨rfl, hb⟩; refine ⟨_, rfl, ?_⟩; replace HO_340005 := rM HO_340005 hb; replace BK2a1 := kM BK2a1 hb; replace HB := bS bE hb; (try clear hb); obtain ⟨hcz5a2_0, hcz5a2_1, hcz5a2_2, hcz5a2_3, hcz5a2_4, hcz5a2_5, hcz5a2_6, hcz5a2_7, hcz5a2_8, hcz5a2_9, hfz5a2_0, hfz5a2_1, hfz5a2_2, hfz5a2_3, hfz5a2_4, hfz5a2_5, hfz5a2_6, hfz5a2_7, hfz5a2_8, hfz5a2_9⟩ := bk10_ BK2a1) | (go_at_call 14; (with_reducible refine (ask_Needs.calls kj19 x340000_10 x340001_5 (⟨#[104, 116, 116, 112, 115, 58, 47, 47, 97, 46, 98]⟩ : ByteArray) (wrap64 (1 + t1)) false _ _ x340005_13 2 0 0 0 false _ ?side1 ?side2 ?side3 A31.out).mono ?_); (case side1 => repeat (first | exact (Kd.R_reads' HO_340005.out).2.2 | (with_reducible refine Kd.C_alloc ?_ _) | (with_reducible refine Kd.C_drewN ?_ _) | (with_reducible refine Kd.C_drew ?_))); (case side2 => exact (Kd.R_reads' HO_340005.out).2.1); (case side3 => exact ⟨lE⟩); rintro e w6a1 ⟨rfl, hb⟩; replace HO_340005 := rM HO_340005 hb; replace BK2a1 := kM BK2a1 hb; replace HB := bS bE hb; (try clear hb)) | (go_at_call 15; (with_reducible refine (lockkeeperlaw8_awake.calls kj19  _ _ ?side1 A33.out).mono ?_); (case side1 => exact ⟨lE⟩); rintro e w7a1 ⟨rfl, hb⟩; replace HO_340005 := rM HO_340005 hb; replace BK2a1 := kM BK2a1 hb; replace HB := bS bE hb; (try clear hb)))
          first
          | clear M26_0
            go_ret
            exact ⟨rE, bE⟩
          | clear M26_1
            have n0_ := Aside0.mk (Kd.R_drew HO_340005.out)
            have n1_ := Aside0.mk (blk_drew BK2a1.out)
            have n2_ := Aside0.mk (below_drew1 HB.out)
            clear HO_340005
            clear BK2a1
            clear HB
            have HO_340005 := n0_
            have BK2a1 := n1_
            have HB := n2_
            clear n0_ n1_ n2_
            obtain ⟨Ao30s1, co30s1, eo30s1⟩ := Kd.R_slice HO_340005.out
            (first | subst eo30s1 | (injection eo30s1 with f1_ f2_ f3_; have f4_ := f1_.symm; have f5_ := f3_.symm; clear f1_ f2_ f3_; subst f4_; subst f5_))
            refine start_ (n := 30) (S := fun w' => w'.cell? ⟨gb2a1, 0, none⟩ = some (.string x340000_10) ∧ w'.cell? ⟨gb2a1, 1, none⟩ = some (.string x340001_5) ∧ w'.cell? ⟨gb2a1, 2, none⟩ = some (.string (⟨#[104, 116, 116, 112, 115, 58, 47, 47, 97, 46, 98]⟩ : ByteArray)) ∧ w'.cell? ⟨gb2a1, 3, none⟩ = some (.int .i64 (wrap64 (1 + t1))) ∧ w'.cell? ⟨gb2a1, 4, none⟩ = some (.bool false) ∧ w'.cell? ⟨gb2a1, 5, none⟩ = some (.slice Ao30s1 x340005_13.length co30s1) ∧ w'.cell? ⟨gb2a1, 6, none⟩ = some (.int .i64 2) ∧ w'.cell? ⟨gb2a1, 7, none⟩ = some (.int .u64 0) ∧ w'.cell? ⟨gb2a1, 8, none⟩ = some (.int .i64 0) ∧ w'.cell? ⟨gb2a1, 9, none⟩ = some (.int .i64 0)) (ds := []) lockkeeperlaw8_AskModes_b0 (by kernel_rfl) rfl rfl ⟨(blk_cell BK2a1.out 0).trans rfl, (blk_cell BK2a1.out 1).trans rfl, (blk_cell BK2a1.out 2).trans rfl, (blk_cell BK2a1.out 3).trans rfl, (blk_cell BK2a1.out 4).trans rfl, (blk_cell BK2a1.out 5).trans rfl, (blk_cell BK2a1.out 6).trans rfl, (blk_cell BK2a1.out 7).trans rfl, (blk_cell BK2a1.out 8).trans rfl, (blk_cell BK2a1.out 9).trans rfl⟩ (fun hHeld => ?_); refine with_tabW lockkeeperlaw8_AskModes.tab11 lockkeeperlaw8_AskModes.bits11 (fun HT_ HW_ => ?_)
            generalize wc.drew = w33s1 at HO_340005 BK2a1 HB hHeld ⊢
            refine tA10 (i := 0) (N := some 52) lockkeeperlaw8_AskModes_b1 (take_ofW HT_.out HW_.out (by kernel_rfl)) hHeld ?_
            refine one_ (i := 1) (N := some 53) lockkeeperlaw8_AskModes_b2 rfl rfl (one_of HT_.out (by kernel_rfl)) (by decide) (fun K hK => ?_)
            refine gS Tryz.func13 #[.agg #[.string x340000_10, .string x340001_5, .string (⟨#[104, 116, 116, 112, 115, 58, 47, 47, 97, 46, 98]⟩ : ByteArray), .int .i64 (wrap64 (1 + t1)), .bool false, .slice Ao30s1 x340005_13.length co30s1, .int .i64 2, .int .u64 0, .int .i64 0, .int .i64 0]] ?_
            with_reducible refine (ask_Check.calls kj19 x340000_10 x340001_5 (⟨#[104, 116, 116, 112, 115, 58, 47, 47, 97, 46, 98]⟩ : ByteArray) (wrap64 (1 + t1)) false _ _ x340005_13 2 0 0 0 t2 _ ?side1 ?side2 ?side3 A29.out).mono ?_
            (case side1 => repeat (first | exact (Kd.R_reads' HO_340005.out).2.2 | (with_reducible refine Kd.C_alloc ?_ _) | (with_reducible refine Kd.C_drewN ?_ _) | (with_reducible refine Kd.C_drew ?_)))
            (case side2 => exact (Kd.R_reads' HO_340005.out).2.1)
            (case side3 => exact ⟨lE⟩)
            rintro e w41s1 ⟨rfl, hb⟩
            refine ⟨_, rfl, ?_⟩
            replace HO_340005 := rM HO_340005 hb; replace BK2a1 := kM BK2a1 hb; replace HB := bS bE hb; (try clear hb)
            refine hK.out _ _ ⟨(blk_cell BK2a1.out 0).trans rfl, (blk_cell BK2a1.out 1).trans rfl, (blk_cell BK2a1.out 2).trans rfl, (blk_cell BK2a1.out 3).trans rfl, (blk_cell BK2a1.out 4).trans rfl, (blk_cell BK2a1.out 5).trans rfl, (blk_cell BK2a1.out 6).trans rfl, (blk_cell BK2a1.out 7).trans rfl, (blk_cell BK2a1.out 8).trans rfl, (blk_cell BK2a1.out 9).trans rfl⟩ (fun hHeld => ?_)
            clear hK K
            refine nA 53 ?_
            refine pA (i := 2) (N := some 54) lockkeeperlaw8_AskModes_b3 (any_of HT_.out (by kernel_rfl)) ?_
            refine pA (i := 3) (N := some 55) lockkeeperlaw8_AskModes_b4 (any_of HT_.out (by kernel_rfl)) ?_
            refine pA (i := 6) (N := some 58) lockkeeperlaw8_AskModes_b5 (any_of HT_.out (by kernel_rfl)) ?_
            refine tA10 (i := 4) (N := some 56) lockkeeperlaw8_AskModes_b6 (take_ofW HT_.out HW_.out (by kernel_rfl)) hHeld ?_
            refine one_ (i := 5) (N := some 57) lockkeeperlaw8_AskModes_b7 rfl rfl (one_of HT_.out (by kernel_rfl)) (by decide) (fun K hK => ?_)
            refine gS Tryz.func16 #[.agg #[.string x340000_10, .string x340001_5, .string (⟨#[104, 116, 116, 112, 115, 58, 47, 47, 97, 46, 98]⟩ : ByteArray), .int .i64 (wrap64 (1 + t1)), .bool false, .slice Ao30s1 x340005_13.length co30s1, .int .i64 2, .int .u64 0, .int .i64 0, .int .i64 0]] ?_
            with_reducible refine (ask_Cross.calls kj19 x340000_10 x340001_5 (⟨#[104, 116, 116, 112, 115, 58, 47, 47, 97, 46, 98]⟩ : ByteArray) (wrap64 (1 + t1)) false _ _ x340005_13 2 0 0 0 t3 _ ?side1 ?side2 ?side3 A31.out).mono ?_
            (case side1 => repeat (first | exact (Kd.R_reads' HO_340005.out).2.2 | (with_reducible refine Kd.C_alloc ?_ _) | (with_reducible refine Kd.C_drewN ?_ _) | (with_reducible refine Kd.C_drew ?_)))
            (case side2 => exact (Kd.R_reads' HO_340005.out).2.1)
            (case side3 => exact ⟨lE⟩)
            rintro e w57s1 ⟨rfl, hb⟩
            refine ⟨_, rfl, ?_⟩
            replace HO_340005 := rM HO_340005 hb; replace BK2a1 := kM BK2a1 hb; replace HB := bS bE hb; (try clear hb)
            refine hK.out _ _ ⟨(blk_cell BK2a1.out 0).trans rfl, (blk_cell BK2a1.out 1).trans rfl, (blk_cell BK2a1.out 2).trans rfl, (blk_cell BK2a1.out 3).trans rfl, (blk_cell BK2a1.out 4).trans rfl, (blk_cell BK2a1.out 5).trans rfl, (blk_cell BK2a1.out 6).trans rfl, (blk_cell BK2a1.out 7).trans rfl, (blk_cell BK2a1.out 8).trans rfl, (blk_cell BK2a1.out 9).trans rfl⟩ (fun hHeld => ?_)
            clear hK K
            refine nA 57 ?_
            refine pA (i := 7) (N := some 59) lockkeeperlaw8_AskModes_b8 (any_of HT_.out (by kernel_rfl)) ?_
            refine pA (i := 8) (N := some 60) lockkeeperlaw8_AskModes_b9 (any_of HT_.out (by kernel_rfl)) ?_
            refine pA (i := 9) (N := some 61) lockkeeperlaw8_AskModes_b10 (any_of HT_.out (by kernel_rfl)) ?_
            refine pA (i := 12) (N := some 64) lockkeeperlaw8_AskModes_b11 (any_of HT_.out (by kernel_rfl)) ?_
            refine tA10 (i := 10) (N := some 62) lockkeeperlaw8_AskModes_b12 (take_ofW HT_.out HW_.out (by kernel_rfl)) hHeld ?_
            refine tA10 (i := 13) (N := some 65) lockkeeperlaw8_AskModes_b13 (take_ofW HT_.out HW_.out (by kernel_rfl)) hHeld ?_
            refine pA (i := 14) (N := some 66) lockkeeperlaw8_AskModes_b14 (any_of HT_.out (by kernel_rfl)) ?_
            refine one_ (i := 11) (N := some 63) lockkeeperlaw8_AskModes_b15 rfl rfl (one_of HT_.out (by kernel_rfl)) (by decide) (fun K hK => ?_)
            refine gS Tryz.func14 #[.agg #[.string x340000_10, .string x340001_5, .string (⟨#[104, 116, 116, 112, 115, 58, 47, 47, 97, 46, 98]⟩ : ByteArray), .int .i64 (wrap64 (1 + t1)), .bool false, .slice Ao30s1 x340005_13.length co30s1, .int .i64 2, .int .u64 0, .int .i64 0, .int .i64 0]] ?_
            with_reducible refine (ask_Needs.calls kj19 x340000_10 x340001_5 (⟨#[104, 116, 116, 112, 115, 58, 47, 47, 97, 46, 98]⟩ : ByteArray) (wrap64 (1 + t1)) false _ _ x340005_13 2 0 0 0 t4 _ ?side1 ?side2 ?side3 A33.out).mono ?_
            (case side1 => repeat (first | exact (Kd.R_reads' HO_340005.out).2.2 | (with_reducible refine Kd.C_alloc ?_ _) | (with_reducible refine Kd.C_drewN ?_ _) | (with_reducible refine Kd.C_drew ?_)))
            (case side2 => exact (Kd.R_reads' HO_340005.out).2.1)
            (case side3 => exact ⟨lE⟩)
            rintro e w76s1 ⟨rfl, hb⟩
            refine ⟨_, rfl, ?_⟩
            replace HO_340005 := rM HO_340005 hb; replace BK2a1 := kM BK2a1 hb; replace HB := bS bE hb; (try clear hb)
            refine hK.out _ _ ⟨(blk_cell BK2a1.out 0).trans rfl, (blk_cell BK2a1.out 1).trans rfl, (blk_cell BK2a1.out 2).trans rfl, (blk_cell BK2a1.out 3).trans rfl, (blk_cell BK2a1.out 4).trans rfl, (blk_cell BK2a1.out 5).trans rfl, (blk_cell BK2a1.out 6).trans rfl, (blk_cell BK2a1.out 7).trans rfl, (blk_cell BK2a1.out 8).trans rfl, (blk_cell BK2a1.out 9).trans rfl⟩ (fun hHeld => ?_)
            clear hK K
            refine nA 63 ?_
            refine pA (i := 15) (N := some 67) lockkeeperlaw8_AskModes_b16 (any_of HT_.out (by kernel_rfl)) ?_
            first
            | clear M27_0
              refine pA (i := 16) (N := some 68) lockkeeperlaw8_AskModes_b17 (any_of HT_.out (by kernel_rfl)) ?_
              refine pA (i := 17) (N := some 69) lockkeeperlaw8_AskModes_b18 (any_of HT_.out (by kernel_rfl)) ?_
              refine pA (i := 18) (N := some 70) lockkeeperlaw8_AskModes_b19 (any_of HT_.out (by kernel_rfl)) ?_
              first
              | clear M28_0
                refine pA (i := 19) (N := some 71) lockkeeperlaw8_AskModes_b20 (any_of HT_.out (by kernel_rfl)) ?_
                refine pA (i := 20) (N := some 72) lockkeeperlaw8_AskModes_b21 (any_of HT_.out (by kernel_rfl)) ?_
                first
                | clear M29_0
                  refine pU (i := 21) (N := some 73) lockkeeperlaw8_AskModes_b22 (any_of HT_.out (by kernel_rfl)) ?_
                  refine pA (i := 22) (N := some 74) lockkeeperlaw8_AskModes_b23 (any_of HT_.out (by kernel_rfl)) ?_
                  refine pA (i := 23) (N := some 75) lockkeeperlaw8_AskModes_b24 (any_of HT_.out (by kernel_rfl)) ?_
                  refine pA (i := 24) (N := some 76) lockkeeperlaw8_AskModes_b25 (any_of HT_.out (by kernel_rfl)) ?_
                  refine pA (i := 25) (N := some 77) lockkeeperlaw8_AskModes_b26 (any_of HT_.out (by kernel_rfl)) ?_
                  refine pA (i := 26) (N := some 78) lockkeeperlaw8_AskModes_b27 (any_of HT_.out (by kernel_rfl)) ?_
                  refine one_ (i := 27) (N := some 79) lockkeeperlaw8_AskModes_b28 rfl rfl (one_of HT_.out (by kernel_rfl)) (by decide) (fun K hK => ?_)
                  refine gS Tryz.func15 #[] ?_
                  with_reducible refine (lockkeeperlaw8_awake.calls kj19  t5 _ ?side1 A38.out).mono ?_
                  (case side1 => exact ⟨lE⟩)
                  rintro e w98s1 ⟨rfl, hb⟩
                  refine ⟨_, rfl, ?_⟩
                  replace HO_340005 := rM HO_340005 hb; replace BK2a1 := kM BK2a1 hb; replace HB := bS bE hb; (try clear hb)
                  refine hK.out _ _ ⟨(blk_cell BK2a1.out 0).trans rfl, (blk_cell BK2a1.out 1).trans rfl, (blk_cell BK2a1.out 2).trans rfl, (blk_cell BK2a1.out 3).trans rfl, (blk_cell BK2a1.out 4).trans rfl, (blk_cell BK2a1.out 5).trans rfl, (blk_cell BK2a1.out 6).trans rfl, (blk_cell BK2a1.out 7).trans rfl, (blk_cell BK2a1.out 8).trans rfl, (blk_cell BK2a1.out 9).trans rfl⟩ (fun hHeld => ?_)
                  clear hK K
                  refine nA 79 ?_
                  refine pA (i := 28) (N := some 80) lockkeeperlaw8_AskModes_b29 (any_of HT_.out (by kernel_rfl)) ?_
                  refine pA (i := 29) (N := some 8) lockkeeperlaw8_AskModes_b30 (any_of HT_.out (by kernel_rfl)) ?_
                  refine done_ (done_of HT_.out (by kernel_rfl)) ?_
                  try go_wp2
                  go_ret
                  exact ⟨rE, bE⟩
                | clear M29_1
                  refine pA (i := 21) (N := some 73) lockkeeperlaw8_AskModes_b22 (any_of HT_.out (by kernel_rfl)) ?_
                  refine pA (i := 22) (N := some 74) lockkeeperlaw8_AskModes_b23 (any_of HT_.out (by kernel_rfl)) ?_
                  refine pA (i := 23) (N := some 75) lockkeeperlaw8_AskModes_b24 (any_of HT_.out (by kernel_rfl)) ?_
                  refine pA (i := 24) (N := some 76) lockkeeperlaw8_AskModes_b25 (any_of HT_.out (by kernel_rfl)) ?_
                  refine pA (i := 25) (N := some 77) lockkeeperlaw8_AskModes_b26 (any_of HT_.out (by kernel_rfl)) ?_
                  refine pA (i := 26) (N := some 78) lockkeeperlaw8_AskModes_b27 (any_of HT_.out (by kernel_rfl)) ?_
                  refine one_ (i := 27) (N := some 79) lockkeeperlaw8_AskModes_b28 rfl rfl (one_of HT_.out (by kernel_rfl)) (by decide) (fun K hK => ?_)
                  refine gS Tryz.func15 #[] ?_
                  with_reducible refine (lockkeeperlaw8_awake.calls kj19  t5 _ ?side1 A38.out).mono ?_
                  (case side1 => exact ⟨lE⟩)
                  rintro e w98s1 ⟨rfl, hb⟩
                  refine ⟨_, rfl, ?_⟩
                  replace HO_340005 := rM HO_340005 hb; replace BK2a1 := kM BK2a1 hb; replace HB := bS bE hb; (try clear hb)
                  refine hK.out _ _ ⟨(blk_cell BK2a1.out 0).trans rfl, (blk_cell BK2a1.out 1).trans rfl, (blk_cell BK2a1.out 2).trans rfl, (blk_cell BK2a1.out 3).trans rfl, (blk_cell BK2a1.out 4).trans rfl, (blk_cell BK2a1.out 5).trans rfl, (blk_cell BK2a1.out 6).trans rfl, (blk_cell BK2a1.out 7).trans rfl, (blk_cell BK2a1.out 8).trans rfl, (blk_cell BK2a1.out 9).trans rfl⟩ (fun hHeld => ?_)
                  clear hK K
                  refine nA 79 ?_
                  refine pA (i := 28) (N := some 80) lockkeeperlaw8_AskModes_b29 (any_of HT_.out (by kernel_rfl)) ?_
                  refine pA (i := 29) (N := some 8) lockkeeperlaw8_AskModes_b30 (any_of HT_.out (by kernel_rfl)) ?_
                  refine done_ (done_of HT_.out (by kernel_rfl)) ?_
                  try go_wp2
                  go_ret
                  exact ⟨rE, bE⟩
              | clear M28_1
                refine pU (i := 19) (N := some 71) lockkeeperlaw8_AskModes_b20 (any_of HT_.out (by kernel_rfl)) ?_
                refine pU (i := 20) (N := some 72) lockkeeperlaw8_AskModes_b21 (any_of HT_.out (by kernel_rfl)) ?_
                refine pU (i := 21) (N := some 73) lockkeeperlaw8_AskModes_b22 (any_of HT_.out (by kernel_rfl)) ?_
                refine pU (i := 22) (N := some 74) lockkeeperlaw8_AskModes_b23 (any_of HT_.out (by kernel_rfl)) ?_
                refine pA (i := 23) (N := some 75) lockkeeperlaw8_AskModes_b24 (any_of HT_.out (by kernel_rfl)) ?_
                refine pA (i := 24) (N := some 76) lockkeeperlaw8_AskModes_b25 (any_of HT_.out (by kernel_rfl)) ?_
                refine pA (i := 25) (N := some 77) lockkeeperlaw8_AskModes_b26 (any_of HT_.out (by kernel_rfl)) ?_
                refine pA (i := 26) (N := some 78) lockkeeperlaw8_AskModes_b27 (any_of HT_.out (by kernel_rfl)) ?_
                refine one_ (i := 27) (N := some 79) lockkeeperlaw8_AskModes_b28 rfl rfl (one_of HT_.out (by kernel_rfl)) (by decide) (fun K hK => ?_)
                refine gS Tryz.func15 #[] ?_
                with_reducible refine (lockkeeperlaw8_awake.calls kj19  t5 _ ?side1 A37.out).mono ?_
                (case side1 => exact ⟨lE⟩)
                rintro e w98s1 ⟨rfl, hb⟩
                refine ⟨_, rfl, ?_⟩
                replace HO_340005 := rM HO_340005 hb; replace BK2a1 := kM BK2a1 hb; replace HB := bS bE hb; (try clear hb)
                refine hK.out _ _ ⟨(blk_cell BK2a1.out 0).trans rfl, (blk_cell BK2a1.out 1).trans rfl, (blk_cell BK2a1.out 2).trans rfl, (blk_cell BK2a1.out 3).trans rfl, (blk_cell BK2a1.out 4).trans rfl, (blk_cell BK2a1.out 5).trans rfl, (blk_cell BK2a1.out 6).trans rfl, (blk_cell BK2a1.out 7).trans rfl, (blk_cell BK2a1.out 8).trans rfl, (blk_cell BK2a1.out 9).trans rfl⟩ (fun hHeld => ?_)
                clear hK K
                refine nA 79 ?_
                refine pA (i := 28) (N := some 80) lockkeeperlaw8_AskModes_b29 (any_of HT_.out (by kernel_rfl)) ?_
                refine pA (i := 29) (N := some 8) lockkeeperlaw8_AskModes_b30 (any_of HT_.out (by kernel_rfl)) ?_
                refine done_ (done_of HT_.out (by kernel_rfl)) ?_
                try go_wp2
                go_ret
                exact ⟨rE, bE⟩
            | clear M27_1
              refine pU (i := 16) (N := some 68) lockkeeperlaw8_AskModes_b17 (any_of HT_.out (by kernel_rfl)) ?_
              refine pA (i := 17) (N := some 69) lockkeeperlaw8_AskModes_b18 (any_of HT_.out (by kernel_rfl)) ?_
              refine pA (i := 18) (N := some 70) lockkeeperlaw8_AskModes_b19 (any_of HT_.out (by kernel_rfl)) ?_
              refine pU (i := 19) (N := some 71) lockkeeperlaw8_AskModes_b20 (any_of HT_.out (by kernel_rfl)) ?_
              refine pU (i := 20) (N := some 72) lockkeeperlaw8_AskModes_b21 (any_of HT_.out (by kernel_rfl)) ?_
              refine pU (i := 21) (N := some 73) lockkeeperlaw8_AskModes_b22 (any_of HT_.out (by kernel_rfl)) ?_
              refine pU (i := 22) (N := some 74) lockkeeperlaw8_AskModes_b23 (any_of HT_.out (by kernel_rfl)) ?_
              refine pA (i := 23) (N := some 75) lockkeeperlaw8_AskModes_b24 (any_of HT_.out (by kernel_rfl)) ?_
              refine pA (i := 24) (N := some 76) lockkeeperlaw8_AskModes_b25 (any_of HT_.out (by kernel_rfl)) ?_
              refine pA (i := 25) (N := some 77) lockkeeperlaw8_AskModes_b26 (any_of HT_.out (by kernel_rfl)) ?_
              refine pA (i := 26) (N := some 78) lockkeeperlaw8_AskModes_b27 (any_of HT_.out (by kernel_rfl)) ?_
              first
              | clear M30_0
                refine one_ (i := 27) (N := some 79) lockkeeperlaw8_AskModes_b28 rfl rfl (one_of HT_.out (by kernel_rfl)) (by decide) (fun K hK => ?_)
                refine gS Tryz.func15 #[] ?_
                with_reducible refine (lockkeeperlaw8_awake.calls kj19  t5 _ ?side1 A36.out).mono ?_
                (case side1 => exact ⟨lE⟩)
                rintro e w98s1 ⟨rfl, hb⟩
                refine ⟨_, rfl, ?_⟩
                replace HO_340005 := rM HO_340005 hb; replace BK2a1 := kM BK2a1 hb; replace HB := bS bE hb; (try clear hb)
                refine hK.out _ _ ⟨(blk_cell BK2a1.out 0).trans rfl, (blk_cell BK2a1.out 1).trans rfl, (blk_cell BK2a1.out 2).trans rfl, (blk_cell BK2a1.out 3).trans rfl, (blk_cell BK2a1.out 4).trans rfl, (blk_cell BK2a1.out 5).trans rfl, (blk_cell BK2a1.out 6).trans rfl, (blk_cell BK2a1.out 7).trans rfl, (blk_cell BK2a1.out 8).trans rfl, (blk_cell BK2a1.out 9).trans rfl⟩ (fun hHeld => ?_)
                clear hK K
                refine nA 79 ?_
                refine pA (i := 28) (N := some 80) lockkeeperlaw8_AskModes_b29 (any_of HT_.out (by kernel_rfl)) ?_
                refine pA (i := 29) (N := some 8) lockkeeperlaw8_AskModes_b30 (any_of HT_.out (by kernel_rfl)) ?_
                refine done_ (done_of HT_.out (by kernel_rfl)) ?_
                try go_wp2
                go_ret
                exact ⟨rE, bE⟩
              | clear M30_1
                refine pU (i := 27) (N := some 79) lockkeeperlaw8_AskModes_b28 (any_of HT_.out (by kernel_rfl)) ?_
                refine pA (i := 28) (N := some 80) lockkeeperlaw8_AskModes_b29 (any_of HT_.out (by kernel_rfl)) ?_
                refine pA (i := 29) (N := some 8) lockkeeperlaw8_AskModes_b30 (any_of HT_.out (by kernel_rfl)) ?_
                refine done_ (done_of HT_.out (by kernel_rfl)) ?_
                try go_wp2
                go_ret
                exact ⟨rE, bE⟩
end Go.Proofs.YtfmajangcbgooaaGreatDoor.Pr
