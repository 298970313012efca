-- Made by a program of this session (wip/xp/xp.py), over the print's words.
import Derived.Test.YtfmajangcbgooaaGreatDoorPr0
import Derived.Test.YtfmajangcbgooaaGreatDoorK0
import Derived.Test.YtfmajangcbgooaaGreatDoorPr1
import Derived.Test.YtfmajangcbgooaaGreatDoorPr6
import Derived.Test.YtfmajangcbgooaaGreatDoorPr11
import Derived.Test.YtfmajangcbgooaaGreatDoorPr13
import Derived.Test.YtfmajangcbgooaaGreatDoorG5
namespace Go.Proofs.YtfmajangcbgooaaGreatDoor.Pr
open Go.RowKit Go.Proofs.YtfmajangcbgooaaGreatDoorW.PrintWords Go.Proofs.YtfmajangcbgooaaGreatDoorW.PrintLast Go.Proofs.YtfmajangcbgooaaGreatDoorW.PrintMore
attribute [local go_sem] max2_int min2_int max_two min_two max_three min_three max_four min_four   -- for this text's walks alone
set_option linter.unusedVariables false
set_option linter.unusedSimpArgs false

attribute [local go_sem high] eqA28
/-! ### lockkeeperlaw8_awake: function 15 -/
def lockkeeperlaw8_awake.f (k : Nat)  : Option (Bool) := (ask_Check.f k (⟨#[80, 85, 84]⟩ : ByteArray) (⟨#[104, 116, 116, 112, 58, 47, 47, 98, 47]⟩ : ByteArray) (⟨#[104, 116, 116, 112, 58, 47, 47, 97]⟩ : ByteArray) 3 false ([] : List (S28)) 1 0 0 0).bind fun t333 => (if t333 = 0 then ((ask_Needs.f k (⟨#[80, 85, 84]⟩ : ByteArray) (⟨#[104, 116, 116, 112, 58, 47, 47, 98, 47]⟩ : ByteArray) (⟨#[104, 116, 116, 112, 58, 47, 47, 97]⟩ : ByteArray) 3 false ([] : List (S28)) 1 0 0 0).bind fun t334 => (if t334 = true then ((ask_Cross.f k (⟨#[80, 85, 84]⟩ : ByteArray) (⟨#[104, 116, 116, 112, 58, 47, 47, 98, 47]⟩ : ByteArray) (⟨#[104, 116, 116, 112, 58, 47, 47, 97]⟩ : ByteArray) 3 false ([] : List (S28)) 1 0 0 0).bind fun t335 => (if t335 = true then ((ask_Key.f k (⟨#[80, 85, 84]⟩ : ByteArray) (⟨#[104, 116, 116, 112, 58, 47, 47, 98, 47]⟩ : ByteArray) (⟨#[104, 116, 116, 112, 58, 47, 47, 97]⟩ : ByteArray) 3 false ([] : List (S28)) 1 0 0 0).bind fun t336 => (if t336.toList = ([104, 116, 116, 112, 58, 47, 47, 98, 58, 56, 48] : List UInt8) then ((ask_Check.f k (⟨#[80, 85, 84]⟩ : ByteArray) (⟨#[104, 116, 116, 112, 58, 47, 47, 98, 47]⟩ : ByteArray) (⟨#[104, 116, 116, 112, 58, 47, 47, 97]⟩ : ByteArray) 2 false ([] : List (S28)) 1 0 0 0).bind fun t337 => (some (t337 == 7))) else (some false))) else (some false))) else (some false))) else (some false))
theorem lockkeeperlaw8_awake.mono : ∀ k, LeO (lockkeeperlaw8_awake.f k ) (lockkeeperlaw8_awake.f (k + 1) ) := by
 intro  k
 have hm0 := @ask_Check.mono; have hm1 := @ask_Cross.mono; have hm2 := @ask_Key.mono; have hm3 := @ask_Needs.mono; unfold lockkeeperlaw8_awake.f
 exact moE

set_option maxHeartbeats 8000000 in
set_option maxRecDepth 100000 in
theorem lockkeeperlaw8_awake.calls (k : Nat)  (r : Bool) (w : World) (hM_ : Aside0 (LaidW w)) (h : lockkeeperlaw8_awake.f k  = some r) :
  Calls Tryz.prog 15 #[] w fun e w' => e = .returned (.bool r) ∧ Below w.heap.size w w' := by
 have hu26 := Tryz.underlying26
 have HB := Aside0.mk (Below.refl w.heap.size w)
 have H : ((ask_Check.f k (⟨#[80, 85, 84]⟩ : ByteArray) (⟨#[104, 116, 116, 112, 58, 47, 47, 98, 47]⟩ : ByteArray) (⟨#[104, 116, 116, 112, 58, 47, 47, 97]⟩ : ByteArray) 3 false ([] : List (S28)) 1 0 0 0).bind fun t1 => (if t1 = 0 then ((ask_Needs.f k (⟨#[80, 85, 84]⟩ : ByteArray) (⟨#[104, 116, 116, 112, 58, 47, 47, 98, 47]⟩ : ByteArray) (⟨#[104, 116, 116, 112, 58, 47, 47, 97]⟩ : ByteArray) 3 false ([] : List (S28)) 1 0 0 0).bind fun t2 => (if t2 = true then ((ask_Cross.f k (⟨#[80, 85, 84]⟩ : ByteArray) (⟨#[104, 116, 116, 112, 58, 47, 47, 98, 47]⟩ : ByteArray) (⟨#[104, 116, 116, 112, 58, 47, 47, 97]⟩ : ByteArray) 3 false ([] : List (S28)) 1 0 0 0).bind fun t3 => (if t3 = true then ((ask_Key.f k (⟨#[80, 85, 84]⟩ : ByteArray) (⟨#[104, 116, 116, 112, 58, 47, 47, 98, 47]⟩ : ByteArray) (⟨#[104, 116, 116, 112, 58, 47, 47, 97]⟩ : ByteArray) 3 false ([] : List (S28)) 1 0 0 0).bind fun t4 => (if t4.toList = ([104, 116, 116, 112, 58, 47, 47, 98, 58, 56, 48] : List UInt8) then ((ask_Check.f k (⟨#[80, 85, 84]⟩ : ByteArray) (⟨#[104, 116, 116, 112, 58, 47, 47, 98, 47]⟩ : ByteArray) (⟨#[104, 116, 116, 112, 58, 47, 47, 97]⟩ : ByteArray) 2 false ([] : List (S28)) 1 0 0 0).bind fun t5 => (some (t5 == 7))) else (some false))) else (some false))) else (some false))) else (some false))) = some r := h
 clear h
 replace H := bd_ H; obtain ⟨t1, A1, H⟩ := H
 refine em_ (t1 = 0) (fun c2 => ?g1p) (fun c2 => ?g1n)
 case' g1p =>
  rw [if_pos c2] at H
  have c2b0 : (t1 == 0) = true := beq_iff_eq.mpr c2
  have c2b1 : (t1 != 0) = false := bne_eq_false_iff_eq.mpr c2
  clear c2
  replace H := bd_ H; obtain ⟨t2, A3, H⟩ := H
  refine em_ (t2 = true) (fun c4 => ?g2p) (fun c4 => ?g2n)
  case' g2p =>
   subst c4
   replace H := ifT_ H
   replace H := bd_ H; obtain ⟨t3, A5, H⟩ := H
   refine em_ (t3 = true) (fun c6 => ?g3p) (fun c6 => ?g3n)
   case' g3p =>
    subst c6
    replace H := ifT_ H
    replace H := bd_ H; obtain ⟨t4, A7, H⟩ := H
    refine em_ (t4.toList = ([104, 116, 116, 112, 58, 47, 47, 98, 58, 56, 48] : List UInt8)) (fun c8 => ?g4p) (fun c8 => ?g4n)
    case' g4p =>
     rw [if_pos c8] at H
     have c8b0 : (t4.toList == ([104, 116, 116, 112, 58, 47, 47, 98, 58, 56, 48] : List UInt8)) = true := beq_iff_eq.mpr c8
     have c8b1 : (t4.toList != ([104, 116, 116, 112, 58, 47, 47, 98, 58, 56, 48] : List UInt8)) = false := bne_eq_false_iff_eq.mpr c8
     clear c8
     replace H := bd_ H; obtain ⟨t5, A9, H⟩ := H
     obtain rfl := si_ H
    case' g4n =>
     rw [if_neg c8] at H
     have c8b0 : (t4.toList == ([104, 116, 116, 112, 58, 47, 47, 98, 58, 56, 48] : List UInt8)) = false := beq_eq_false_iff_ne.mpr c8
     have c8b1 : (t4.toList != ([104, 116, 116, 112, 58, 47, 47, 98, 58, 56, 48] : List UInt8)) = true := bne_iff_ne.mpr c8
     obtain rfl := si_ H
   case' g3n =>
    replace c6 := Bool.eq_false_iff.mpr c6
    subst c6
    replace H := ifF_ H
    obtain rfl := si_ H
  case' g2n =>
   replace c4 := Bool.eq_false_iff.mpr c4
   subst c4
   replace H := ifF_ H
   obtain rfl := si_ H
 case' g1n =>
  rw [if_neg c2] at H
  have c2b0 : (t1 == 0) = false := beq_eq_false_iff_ne.mpr c2
  have c2b1 : (t1 != 0) = true := bne_iff_ne.mpr c2
  obtain rfl := si_ H
 all_goals
  go_enter Tryz.func15, Tryz.ntmps15
  go_wp2_with (first | ((with_reducible refine gate_dst (N := 1) rfl ?_); refine bxE (N := 1) (cs := #[.string (⟨#[]⟩ : ByteArray), .string (⟨#[]⟩ : ByteArray), .string (⟨#[]⟩ : ByteArray), .int .i64 0, .bool false, .slice none 0 0, .int .i64 0, .int .u64 0, .int .i64 0, .int .i64 0]) (t := 26) fun gb1a1 hg w1a2 hbox hb => ?_; obtain ⟨HB', BK1a1, GW1a1⟩ := bx_ bE hg hbox hb; have GE1a1 := GW1a1; clear HB hb hbox hg; have HB := HB'; clear HB'; obtain ⟨z1a3_0, z1a3_1, z1a3_2, z1a3_3, z1a3_4, z1a3_5, z1a3_6, z1a3_7, z1a3_8, z1a3_9, zf1a3_0, zf1a3_1, zf1a3_2, zf1a3_3, zf1a3_4, zf1a3_5, zf1a3_6, zf1a3_7, zf1a3_8, zf1a3_9⟩ := bk10_ BK1a1) | ((with_reducible refine gate_dst (N := 2) rfl ?_); refine bxE (N := 2) (cs := #[.string (⟨#[]⟩ : ByteArray), .string (⟨#[]⟩ : ByteArray), .string (⟨#[]⟩ : ByteArray), .int .i64 0, .bool false, .slice none 0 0, .int .i64 0, .int .u64 0, .int .i64 0, .int .i64 0]) (t := 26) fun gb2a1 hg w2a2 hbox hb => ?_; have n0_ := Aside0.mk (blk_below (g := gb1a1) (o := .cells #[.string (⟨#[80, 85, 84]⟩ : ByteArray), .string (⟨#[104, 116, 116, 112, 58, 47, 47, 98, 47]⟩ : ByteArray), .string (⟨#[104, 116, 116, 112, 58, 47, 47, 97]⟩ : ByteArray), .int .i64 3, .bool false, .slice none 0 0, .int .i64 1, .int .u64 0, .int .i64 0, .int .i64 0] 26 (0, 0)) (kT) hb); have n1_ := bS bE hb; have n2_ := Aside0.mk (hbox); have n3_ := sE (w := w) hg; have n4_ := sE (w := w) hg; have n5_ := Aside0.mk ((by rw [hg]; exact Nat.ne_of_lt (blk_lt (g := gb1a1) (o := .cells #[.string (⟨#[80, 85, 84]⟩ : ByteArray), .string (⟨#[104, 116, 116, 112, 58, 47, 47, 98, 47]⟩ : ByteArray), .string (⟨#[104, 116, 116, 112, 58, 47, 47, 97]⟩ : ByteArray), .int .i64 3, .bool false, .slice none 0 0, .int .i64 1, .int .u64 0, .int .i64 0, .int .i64 0] 26 (0, 0)) (kT)) : gb1a1 ≠ gb2a1)); have n6_ := Aside0.mk ((by rw [hg]; exact Nat.ne_of_gt (blk_lt (g := gb1a1) (o := .cells #[.string (⟨#[80, 85, 84]⟩ : ByteArray), .string (⟨#[104, 116, 116, 112, 58, 47, 47, 98, 47]⟩ : ByteArray), .string (⟨#[104, 116, 116, 112, 58, 47, 47, 97]⟩ : ByteArray), .int .i64 3, .bool false, .slice none 0 0, .int .i64 1, .int .u64 0, .int .i64 0, .int .i64 0] 26 (0, 0)) (kT)) : gb2a1 ≠ gb1a1)); clear BK1a1; clear HB; have BK1a1 := n0_; have HB := n1_; have BK2a1 := n2_; have GW2a1 := n3_; have GE2a1 := n4_; have NB1a1_2a1 := n5_; have NB2a1_1a1 := n6_; clear n0_ n1_ n2_ n3_ n4_ n5_ n6_; clear hb hbox hg; have hnb2a3 := NB2a1_1a1.out; have hnc2a3 := NB1a1_2a1.out; obtain ⟨z2a4_0, z2a4_1, z2a4_2, z2a4_3, z2a4_4, z2a4_5, z2a4_6, z2a4_7, z2a4_8, z2a4_9, zf2a4_0, zf2a4_1, zf2a4_2, zf2a4_3, zf2a4_4, zf2a4_5, zf2a4_6, zf2a4_7, zf2a4_8, zf2a4_9⟩ := bk10_ BK2a1; obtain ⟨z2a5_0, z2a5_1, z2a5_2, z2a5_3, z2a5_4, z2a5_5, z2a5_6, z2a5_7, z2a5_8, z2a5_9, zf2a5_0, zf2a5_1, zf2a5_2, zf2a5_3, zf2a5_4, zf2a5_5, zf2a5_6, zf2a5_7, zf2a5_8, zf2a5_9⟩ := bk10_ BK1a1) | ((with_reducible refine gate_callee (f := 13) rfl ?_); refine gL (some 7) Tryz.func13 #[.agg #[.string (⟨#[80, 85, 84]⟩ : ByteArray), .string (⟨#[104, 116, 116, 112, 58, 47, 47, 98, 47]⟩ : ByteArray), .string (⟨#[104, 116, 116, 112, 58, 47, 47, 97]⟩ : ByteArray), .int .i64 3, .bool false, .slice none 0 0, .int .i64 1, .int .u64 0, .int .i64 0, .int .i64 0]] ?_; (refine (ask_Check.calls k (⟨#[80, 85, 84]⟩ : ByteArray) (⟨#[104, 116, 116, 112, 58, 47, 47, 98, 47]⟩ : ByteArray) (⟨#[104, 116, 116, 112, 58, 47, 47, 97]⟩ : ByteArray) 3 false _ _ ([] : List (S28)) 1 0 0 0 t1 _ ?side1 ?side2 ?side3 A1.out).mono ?_); (case side1 => exact Kd.C_nil _ _); (case side2 => exact Nat.le_refl _); (case side3 => exact ⟨lE⟩); rintro e w3a1 ⟨rfl, hb⟩; refine ⟨_, rfl, ?_⟩; have n0_ := kF BK1a1 hb; have n1_ := Aside0.mk (blk_below (g := gb2a1) (o := .cells #[.string (⟨#[80, 85, 84]⟩ : ByteArray), .string (⟨#[104, 116, 116, 112, 58, 47, 47, 98, 47]⟩ : ByteArray), .string (⟨#[104, 116, 116, 112, 58, 47, 47, 97]⟩ : ByteArray), .int .i64 2, .bool false, .slice none 0 0, .int .i64 1, .int .u64 0, .int .i64 0, .int .i64 0] 26 (0, 0)) (kT) hb); have n2_ := bS bE hb; clear BK1a1; clear BK2a1; clear HB; have BK1a1 := n0_; have BK2a1 := n1_; have HB := n2_; clear n0_ n1_ n2_; (try clear hb); (try clear hb2); (try clear hk); (try clear hi); obtain ⟨z3a2_0, z3a2_1, z3a2_2, z3a2_3, z3a2_4, z3a2_5, z3a2_6, z3a2_7, z3a2_8, z3a2_9, zf3a2_0, zf3a2_1, zf3a2_2, zf3a2_3, zf3a2_4, zf3a2_5, zf3a2_6, zf3a2_7, zf3a2_8, zf3a2_9⟩ := bk10_ BK1a1) | (go_at_call 14; (refine (ask_Needs.calls k (⟨#[80, 85, 84]⟩ : ByteArray) (⟨#[104, 116, 116, 112, 58, 47, 47, 98, 47]⟩ : ByteArray) (⟨#[104, 116, 116, 112, 58, 47, 47, 97]⟩ : ByteArray) 3 false _ _ ([] : List (S28)) 1 0 0 0 true _ ?side1 ?side2 ?side3 A3.out).mono ?_); (case side1 => exact Kd.C_nil _ _); (case side2 => exact Nat.le_refl _); (case side3 => exact ⟨lE⟩); rintro e w4a1 ⟨rfl, hb⟩; replace BK1a1 := kM BK1a1 hb; replace BK2a1 := kM BK2a1 hb; replace HB := bS bE hb; (try clear hb); obtain ⟨z4a2_0, z4a2_1, z4a2_2, z4a2_3, z4a2_4, z4a2_5, z4a2_6, z4a2_7, z4a2_8, z4a2_9, zf4a2_0, zf4a2_1, zf4a2_2, zf4a2_3, zf4a2_4, zf4a2_5, zf4a2_6, zf4a2_7, zf4a2_8, zf4a2_9⟩ := bk10_ BK1a1) | (go_at_call 16; (refine (ask_Cross.calls k (⟨#[80, 85, 84]⟩ : ByteArray) (⟨#[104, 116, 116, 112, 58, 47, 47, 98, 47]⟩ : ByteArray) (⟨#[104, 116, 116, 112, 58, 47, 47, 97]⟩ : ByteArray) 3 false _ _ ([] : List (S28)) 1 0 0 0 true _ ?side1 ?side2 ?side3 A5.out).mono ?_); (case side1 => exact Kd.C_nil _ _); (case side2 => exact Nat.le_refl _); (case side3 => exact ⟨lE⟩); rintro e w5a1 ⟨rfl, hb⟩; replace BK1a1 := kM BK1a1 hb; replace BK2a1 := kM BK2a1 hb; replace HB := bS bE hb; (try clear hb); obtain ⟨z5a2_0, z5a2_1, z5a2_2, z5a2_3, z5a2_4, z5a2_5, z5a2_6, z5a2_7, z5a2_8, z5a2_9, zf5a2_0, zf5a2_1, zf5a2_2, zf5a2_3, zf5a2_4, zf5a2_5, zf5a2_6, zf5a2_7, zf5a2_8, zf5a2_9⟩ := bk10_ BK1a1) | (go_at_call 27; (refine (ask_Key.calls k (⟨#[80, 85, 84]⟩ : ByteArray) (⟨#[104, 116, 116, 112, 58, 47, 47, 98, 47]⟩ : ByteArray) (⟨#[104, 116, 116, 112, 58, 47, 47, 97]⟩ : ByteArray) 3 false _ _ ([] : List (S28)) 1 0 0 0 t4 _ ?side1 ?side2 ?side3 A7.out).mono ?_); (case side1 => exact Kd.C_nil _ _); (case side2 => exact Nat.le_refl _); (case side3 => exact ⟨lE⟩); rintro e w6a1 ⟨rfl, hb⟩; replace BK1a1 := kM BK1a1 hb; replace BK2a1 := kM BK2a1 hb; replace HB := bS bE hb; (try clear hb); obtain ⟨z6a2_0, z6a2_1, z6a2_2, z6a2_3, z6a2_4, z6a2_5, z6a2_6, z6a2_7, z6a2_8, z6a2_9, zf6a2_0, zf6a2_1, zf6a2_2, zf6a2_3, zf6a2_4, zf6a2_5, zf6a2_6, zf6a2_7, zf6a2_8, zf6a2_9⟩ := bk10_ BK2a1) | (go_at_call 13; (refine (ask_Check.calls k (⟨#[80, 85, 84]⟩ : ByteArray) (⟨#[104, 116, 116, 112, 58, 47, 47, 98, 47]⟩ : ByteArray) (⟨#[104, 116, 116, 112, 58, 47, 47, 97]⟩ : ByteArray) 2 false _ _ ([] : List (S28)) 1 0 0 0 t5 _ ?side1 ?side2 ?side3 A9.out).mono ?_); (case side1 => exact Kd.C_nil _ _); (case side2 => exact Nat.le_refl _); (case side3 => exact ⟨lE⟩); rintro e w7a1 ⟨rfl, hb⟩; replace BK1a1 := kM BK1a1 hb; replace BK2a1 := kM BK2a1 hb; replace HB := bS bE hb; (try clear hb)) | (go_at_call 16; (refine (ask_Cross.calls k (⟨#[80, 85, 84]⟩ : ByteArray) (⟨#[104, 116, 116, 112, 58, 47, 47, 98, 47]⟩ : ByteArray) (⟨#[104, 116, 116, 112, 58, 47, 47, 97]⟩ : ByteArray) 3 false _ _ ([] : List (S28)) 1 0 0 0 false _ ?side1 ?side2 ?side3 A5.out).mono ?_); (case side1 => exact Kd.C_nil _ _); (case side2 => exact Nat.le_refl _); (case side3 => exact ⟨lE⟩); rintro e w8a1 ⟨rfl, hb⟩; replace BK1a1 := kM BK1a1 hb; replace BK2a1 := kM BK2a1 hb; replace HB := bS bE hb; (try clear hb)) | (go_at_call 14; (refine (ask_Needs.calls k (⟨#[80, 85, 84]⟩ : ByteArray) (⟨#[104, 116, 116, 112, 58, 47, 47, 98, 47]⟩ : ByteArray) (⟨#[104, 116, 116, 112, 58, 47, 47, 97]⟩ : ByteArray) 3 false _ _ ([] : List (S28)) 1 0 0 0 false _ ?side1 ?side2 ?side3 A3.out).mono ?_); (case side1 => exact Kd.C_nil _ _); (case side2 => exact Nat.le_refl _); (case side3 => exact ⟨lE⟩); rintro e w9a1 ⟨rfl, hb⟩; replace BK1a1 := kM BK1a1 hb; replace BK2a1 := kM BK2a1 hb; replace HB := bS bE hb; (try clear hb)))
  go_ret
  exact ⟨rE, bE⟩

/-! ### lockkeeperlaw0_GreatHeaders: function 33 -/
def lockkeeperlaw0_GreatHeaders.l0 : Nat → List (S28) → Int → Int → Option (Bool)
 | 0, _, _, _ => none
 | k + 1, x0, x3, x4 => if x4 < (x0.length : Int) then (if 0 ≤ x4 then (if (((rd_T28 x0 x4).f0).size : Int) > 100 then (some true) else (if (((rd_T28 x0 x4).f1).size : Int) > 5000 then (some true) else (lockkeeperlaw0_GreatHeaders.l0 k x0 (wrap64 (x3 + (((rd_T28 x0 x4).f1).size : Int))) (wrap64 (x4 + 1))))) else (none)) else (some (decide (x3 > 12000)))
def lockkeeperlaw0_GreatHeaders.f (k : Nat) (l0 : List (S28)) : Option (Bool) := if (l0.length : Int) > 40 then (some true) else (lockkeeperlaw0_GreatHeaders.l0 k l0 0 0)
theorem lockkeeperlaw0_GreatHeaders.mono_l : ∀ k, (∀ y0 y1 y2, LeO (lockkeeperlaw0_GreatHeaders.l0 k y0 y1 y2) (lockkeeperlaw0_GreatHeaders.l0 (k + 1) y0 y1 y2))
 | 0 => fun _ _ _ r h => by simp [lockkeeperlaw0_GreatHeaders.l0] at h
 | k + 1 => by
  have ih0 := lockkeeperlaw0_GreatHeaders.mono_l k
  ·intros
   unfold lockkeeperlaw0_GreatHeaders.l0
   exact moE

theorem lockkeeperlaw0_GreatHeaders.mono : ∀ a0 k, LeO (lockkeeperlaw0_GreatHeaders.f k a0) (lockkeeperlaw0_GreatHeaders.f (k + 1) a0) := by
 intro a0 k
 have ih0 := lockkeeperlaw0_GreatHeaders.mono_l k
 unfold lockkeeperlaw0_GreatHeaders.f
 exact moE

set_option maxHeartbeats 8000000 in
set_option maxRecDepth 100000 in
theorem lockkeeperlaw0_GreatHeaders.calls (k : Nat) (A0 : Option Addr) (c0 : Nat) (l0 : List (S28)) (r : Bool) (w : World) (hr0 : Kd.C k28 w A0 l0.length l0) (hc0 : l0.length ≤ c0) (h : lockkeeperlaw0_GreatHeaders.f k l0 = some r) :
  Calls Tryz.prog 33 #[.slice A0 l0.length c0] w fun e w' => e = .returned (.bool r) ∧ Drawn0 w w' := by
 have HR1 := Aside0.mk hr0
 have HC1 := Aside0.mk hc0
 clear hr0 hc0
 have H : (if (l0.length : Int) > 40 then (some true) else (lockkeeperlaw0_GreatHeaders.l0 k l0 0 0)) = some r := h
 clear h
 refine em_ ((l0.length : Int) > 40) (fun c2 => ?g1p) (fun c2 => ?g1n)
 case' g1p =>
  rw [if_pos c2] at H
  have c2b0 : decide (40 < (l0.length : Int)) = true := decide_eq_true c2
  have c2b1 : decide (40 < l0.length) = true := decide_eq_true (by omega)
  clear c2
  obtain rfl := si_ H
  have M2_0 := trivial
 case' g1n =>
  rw [if_neg c2] at H
  have c2b0 : decide (40 < (l0.length : Int)) = false := decide_eq_false c2
  have c2b1 : decide (40 < l0.length) = false := decide_eq_false (by omega)
  clear c2
  have H' := Aside0.mk H
  clear H
  have M2_1 := trivial
 all_goals
  go_enter Tryz.func33, Tryz.ntmps33
  go_wp2
  first
  | clear M2_0
    go_ret
    exact ⟨by first | rfl | (simp; done) | (simp [*]; done), by repeat (first | exact Drawn0.refl _ | apply Drawn0.step)⟩
  | clear M2_1
    go_loopg [3, 4] k (fun kq v3s1 v3s2 w' => ∃ (x3_1 : Int) (x4_1 : Int), v3s1 = .int .i64 x3_1 ∧ v3s2 = .int .i64 x4_1 ∧ Aside0 (lockkeeperlaw0_GreatHeaders.l0 kq l0 x3_1 x4_1 = some r) ∧ Aside0 (kq ≤ k) ∧ Drawn0 w w')
    case atStart => exact ⟨(0), (0), rS, rS, H', ⟨Nat.le_refl _⟩, by repeat (first | exact Drawn0.refl _ | apply Drawn0.step)⟩
    case round =>
     clear H'
     try clear c2
     try clear c2b0
     try clear c2b1
     obtain ⟨x3_1, x4_1, rfl, rfl, HA, HK1, ⟨m1, rfl⟩⟩ := hrel
     cases gk with
     | zero => exact absurd HA.out (by simp [lockkeeperlaw0_GreatHeaders.l0])
     | succ k1 =>
      have H := HA.out
      clear HA
      simp only [lockkeeperlaw0_GreatHeaders.l0] at H
      refine em_ (x4_1 < (l0.length : Int)) (fun c3 => ?g3p) (fun c3 => ?g3n)
      case' g3p =>
       rw [if_pos c3] at H
       have c3b0 : decide (x4_1 < (l0.length : Int)) = true := decide_eq_true c3
       clear c3
       replace H := iteN_ H; obtain ⟨c4, H⟩ := H
       have c4b0 : decide (0 ≤ x4_1) = true := decide_eq_true c4
       clear c4
       refine em_ ((((rd_T28 l0 x4_1).f0).size : Int) > 100) (fun c5 => ?g4p) (fun c5 => ?g4n)
       case' g4p =>
        rw [if_pos c5] at H
        have c5b0 : decide (100 < (((rd_T28 l0 x4_1).f0).size : Int)) = true := decide_eq_true c5
        have c5b1 : decide (100 < ((rd_T28 l0 x4_1).f0).size) = true := decide_eq_true (by omega)
        clear c5
        obtain rfl := si_ H
        have p6 : 0 ≤ (x4_1 : Int) := of_decide_eq_true mE
        have q6 : x4_1 < (l0.length : Int) := of_decide_eq_true mE
        obtain ⟨ad6, e1, hx6_0, hx6_1⟩ := at_T28 HR1.out x4_1 p6 q6
        cases e1
        replace p6 := eq_true p6
        replace q6 := eq_true q6
        have M6_0 := trivial
       case' g4n =>
        rw [if_neg c5] at H
        have c5b0 : decide (100 < (((rd_T28 l0 x4_1).f0).size : Int)) = false := decide_eq_false c5
        have c5b1 : decide (100 < ((rd_T28 l0 x4_1).f0).size) = false := decide_eq_false (by omega)
        clear c5
        refine em_ ((((rd_T28 l0 x4_1).f1).size : Int) > 5000) (fun c6 => ?g5p) (fun c6 => ?g5n)
        case' g5p =>
         rw [if_pos c6] at H
         have c6b0 : decide (5000 < (((rd_T28 l0 x4_1).f1).size : Int)) = true := decide_eq_true c6
         have c6b1 : decide (5000 < ((rd_T28 l0 x4_1).f1).size) = true := decide_eq_true (by omega)
         clear c6
         obtain rfl := si_ H
         have p7 : 0 ≤ (x4_1 : Int) := of_decide_eq_true mE
         have q7 : x4_1 < (l0.length : Int) := of_decide_eq_true mE
         obtain ⟨ad7, e1, hx7_0, hx7_1⟩ := at_T28 HR1.out x4_1 p7 q7
         cases e1
         replace p7 := eq_true p7
         replace q7 := eq_true q7
         have p8 : 0 ≤ (x4_1 : Int) := of_decide_eq_true mE
         have q8 : x4_1 < (l0.length : Int) := of_decide_eq_true mE
         obtain ⟨ad8, e2, hx8_0, hx8_1⟩ := at_T28 HR1.out x4_1 p8 q8
         obtain rfl : ad7 = ad8 := (by injection e2)
         replace p8 := eq_true p8
         replace q8 := eq_true q8
         have M6_0 := trivial
        case' g5n =>
         rw [if_neg c6] at H
         have c6b0 : decide (5000 < (((rd_T28 l0 x4_1).f1).size : Int)) = false := decide_eq_false c6
         have c6b1 : decide (5000 < ((rd_T28 l0 x4_1).f1).size) = false := decide_eq_false (by omega)
         clear c6
         have H' := Aside0.mk H
         clear H
         have p7 : 0 ≤ (x4_1 : Int) := of_decide_eq_true mE
         have q7 : x4_1 < (l0.length : Int) := of_decide_eq_true mE
         obtain ⟨ad7, e1, hx7_0, hx7_1⟩ := at_T28 HR1.out x4_1 p7 q7
         cases e1
         replace p7 := eq_true p7
         replace q7 := eq_true q7
         have p8 : 0 ≤ (x4_1 : Int) := of_decide_eq_true mE
         have q8 : x4_1 < (l0.length : Int) := of_decide_eq_true mE
         obtain ⟨ad8, e2, hx8_0, hx8_1⟩ := at_T28 HR1.out x4_1 p8 q8
         obtain rfl : ad7 = ad8 := (by injection e2)
         replace p8 := eq_true p8
         replace q8 := eq_true q8
         have p9 : 0 ≤ (x4_1 : Int) := of_decide_eq_true mE
         have q9 : x4_1 < (l0.length : Int) := of_decide_eq_true mE
         obtain ⟨ad9, e3, hx9_0, hx9_1⟩ := at_T28 HR1.out x4_1 p9 q9
         obtain rfl : ad7 = ad9 := (by injection e3)
         replace p9 := eq_true p9
         replace q9 := eq_true q9
         have M6_1 := trivial
      case' g3n =>
       rw [if_neg c3] at H
       have c3b0 : decide (x4_1 < (l0.length : Int)) = false := decide_eq_false c3
       clear c3
       obtain rfl := si_ H
       have M6_0 := trivial
      all_goals
       go_wp2
       first
       | clear M6_0
         go_ret
         exact ⟨by first | rfl | (simp; done) | (simp [*]; done), by repeat (first | exact Drawn0.refl _ | apply Drawn0.step)⟩
       | clear M6_1
         go_roundg k1
         case measure => have := HK1.out; omega
         case rel => exact ⟨(wrap64 (x3_1 + (((rd_T28 l0 x4_1).f1).size : Int))), (wrap64 (x4_1 + 1)), rS, rS, H', ⟨by have := HK1.out; omega⟩, by repeat (first | exact Drawn0.refl _ | apply Drawn0.step)⟩

/-! ### lockkeeperlaw0_GreatReq: function 17 -/
def lockkeeperlaw0_GreatReq.f (k : Nat) (a0_0 : ByteArray) (a0_1 : ByteArray) (a0_2 : ByteArray) (a0_3 : Int) (a0_4 : Bool) (l0_5 : List (S28)) (a0_6 : Int) (a0_7 : Int) (a0_8 : Int) (a0_9 : Int) : Option (Bool) := if (a0_0.size : Int) > 60 then (some true) else (if (a0_1.size : Int) > 700 then (some true) else (if (a0_2.size : Int) > 700 then (some true) else ((lockkeeperlaw0_GreatHeaders.f k l0_5).bind fun t342 => (some t342))))
theorem lockkeeperlaw0_GreatReq.mono : ∀ a0 a1 a2 a3 a4 a5 a6 a7 a8 a9 k, LeO (lockkeeperlaw0_GreatReq.f k a0 a1 a2 a3 a4 a5 a6 a7 a8 a9) (lockkeeperlaw0_GreatReq.f (k + 1) a0 a1 a2 a3 a4 a5 a6 a7 a8 a9) := by
 intro a0 a1 a2 a3 a4 a5 a6 a7 a8 a9 k
 have hm0 := @lockkeeperlaw0_GreatHeaders.mono; unfold lockkeeperlaw0_GreatReq.f
 exact moE

set_option maxHeartbeats 8000000 in
set_option maxRecDepth 100000 in
theorem lockkeeperlaw0_GreatReq.calls (k : Nat) (a0_0 : ByteArray) (a0_1 : ByteArray) (a0_2 : ByteArray) (a0_3 : Int) (a0_4 : Bool) (A0_5 : Option Addr) (c0_5 : Nat) (l0_5 : List (S28)) (a0_6 : Int) (a0_7 : Int) (a0_8 : Int) (a0_9 : Int) (r : Bool) (w : World) (hr0_5 : Kd.C k28 w A0_5 l0_5.length l0_5) (hc0_5 : l0_5.length ≤ c0_5) (h : lockkeeperlaw0_GreatReq.f k a0_0 a0_1 a0_2 a0_3 a0_4 l0_5 a0_6 a0_7 a0_8 a0_9 = some r) :
  Calls Tryz.prog 17 #[.agg #[.string a0_0, .string a0_1, .string a0_2, .int .i64 a0_3, .bool a0_4, .slice A0_5 l0_5.length c0_5, .int .i64 a0_6, .int .u64 a0_7, .int .i64 a0_8, .int .i64 a0_9]] w fun e w' => e = .returned (.bool r) ∧ Below w.heap.size w w' := by
 have hu26 := Tryz.underlying26
 have HR1_5 := Aside0.mk hr0_5
 have HC1_5 := Aside0.mk hc0_5
 clear hr0_5 hc0_5
 have HB := Aside0.mk (Below.refl w.heap.size w)
 have H : (if (a0_0.size : Int) > 60 then (some true) else (if (a0_1.size : Int) > 700 then (some true) else (if (a0_2.size : Int) > 700 then (some true) else ((lockkeeperlaw0_GreatHeaders.f k l0_5).bind fun t1 => (some t1))))) = some r := h
 clear h
 refine em_ ((a0_0.size : Int) > 60) (fun c2 => ?g1p) (fun c2 => ?g1n)
 case' g1p =>
  rw [if_pos c2] at H
  have c2b0 : decide (60 < (a0_0.size : Int)) = true := decide_eq_true c2
  have c2b1 : decide (60 < a0_0.size) = true := decide_eq_true (by omega)
  clear c2
  obtain rfl := si_ H
 case' g1n =>
  rw [if_neg c2] at H
  have c2b0 : decide (60 < (a0_0.size : Int)) = false := decide_eq_false c2
  have c2b1 : decide (60 < a0_0.size) = false := decide_eq_false (by omega)
  clear c2
  refine em_ ((a0_1.size : Int) > 700) (fun c3 => ?g2p) (fun c3 => ?g2n)
  case' g2p =>
   rw [if_pos c3] at H
   have c3b0 : decide (700 < (a0_1.size : Int)) = true := decide_eq_true c3
   have c3b1 : decide (700 < a0_1.size) = true := decide_eq_true (by omega)
   clear c3
   obtain rfl := si_ H
  case' g2n =>
   rw [if_neg c3] at H
   have c3b0 : decide (700 < (a0_1.size : Int)) = false := decide_eq_false c3
   have c3b1 : decide (700 < a0_1.size) = false := decide_eq_false (by omega)
   clear c3
   refine em_ ((a0_2.size : Int) > 700) (fun c4 => ?g3p) (fun c4 => ?g3n)
   case' g3p =>
    rw [if_pos c4] at H
    have c4b0 : decide (700 < (a0_2.size : Int)) = true := decide_eq_true c4
    have c4b1 : decide (700 < a0_2.size) = true := decide_eq_true (by omega)
    clear c4
    obtain rfl := si_ H
   case' g3n =>
    rw [if_neg c4] at H
    have c4b0 : decide (700 < (a0_2.size : Int)) = false := decide_eq_false c4
    have c4b1 : decide (700 < a0_2.size) = false := decide_eq_false (by omega)
    clear c4
    replace H := bd_ H; obtain ⟨t1, A5, H⟩ := H
    obtain rfl := si_ H
 all_goals
  go_enter Tryz.func17, Tryz.ntmps17
  go_wp2_with (first | ((with_reducible refine gate_dst (N := 1) rfl ?_); (try (refine gate_guard (by rfl) ?_; dsimp only)); refine bxE (N := 1) (cs := #[.string a0_0, .string a0_1, .string a0_2, .int .i64 a0_3, .bool a0_4, .slice A0_5 l0_5.length c0_5, .int .i64 a0_6, .int .u64 a0_7, .int .i64 a0_8, .int .i64 a0_9]) (t := 26) fun gb1a1 hg w1a2 hbox hb => ?_; obtain ⟨HB', BK1a1, GW1a1⟩ := bx_ bE hg hbox hb; have GE1a1 := GW1a1; clear HB hb hbox hg; have HB := HB'; clear HB'; obtain ⟨z1a3_0, z1a3_1, z1a3_2, z1a3_3, z1a3_4, z1a3_5, z1a3_6, z1a3_7, z1a3_8, z1a3_9, zf1a3_0, zf1a3_1, zf1a3_2, zf1a3_3, zf1a3_4, zf1a3_5, zf1a3_6, zf1a3_7, zf1a3_8, zf1a3_9⟩ := bk10_ BK1a1) | (go_at_call 33; (with_reducible refine (lockkeeperlaw0_GreatHeaders.calls k _ _ l0_5 t1 _ ?side1 ?side2 A5.out).mono ?_); (case side1 => repeat (first | exact (Kd.C_below HR1_5.out HB.out) | (with_reducible refine Kd.C_alloc ?_ _) | (with_reducible refine Kd.C_drewN ?_ _) | (with_reducible refine Kd.C_drew ?_))); (case side2 => exact HC1_5.out); rintro e w' ⟨rfl, ⟨nd, rfl⟩⟩))
  go_ret
  exact ⟨rE, bE⟩

/-! ### lockkeeperlaw0_Headers: function 56 -/
def lockkeeperlaw0_Headers.l0 : Nat → List (S28) → List (S28) → Int → Option (Bool)
 | 0, _, _, _ => none
 | k + 1, x0, x1, x5 => if x5 < (x0.length : Int) then (if 0 ≤ x5 then (if x5 < (x1.length : Int) then (if (!((((rd_T28 x0 x5).f0).toList) == (((rd_T28 x1 x5).f0).toList)) || (!((((rd_T28 x0 x5).f1).toList) == (((rd_T28 x1 x5).f1).toList)))) = true then (some false) else (lockkeeperlaw0_Headers.l0 k x0 x1 (wrap64 (x5 + 1)))) else (none)) else (none)) else (some true)
def lockkeeperlaw0_Headers.f (k : Nat) (l0 : List (S28)) (l1 : List (S28)) : Option (Bool) := if (l0.length : Int) = (l1.length : Int) then (lockkeeperlaw0_Headers.l0 k l0 l1 0) else (some false)
theorem lockkeeperlaw0_Headers.mono_l : ∀ k, (∀ y0 y1 y2, LeO (lockkeeperlaw0_Headers.l0 k y0 y1 y2) (lockkeeperlaw0_Headers.l0 (k + 1) y0 y1 y2))
 | 0 => fun _ _ _ r h => by simp [lockkeeperlaw0_Headers.l0] at h
 | k + 1 => by
  have ih0 := lockkeeperlaw0_Headers.mono_l k
  ·intros
   unfold lockkeeperlaw0_Headers.l0
   exact moE

theorem lockkeeperlaw0_Headers.mono : ∀ a0 a1 k, LeO (lockkeeperlaw0_Headers.f k a0 a1) (lockkeeperlaw0_Headers.f (k + 1) a0 a1) := by
 intro a0 a1 k
 have ih0 := lockkeeperlaw0_Headers.mono_l k
 unfold lockkeeperlaw0_Headers.f
 exact moE

set_option maxHeartbeats 8000000 in
set_option maxRecDepth 100000 in
theorem lockkeeperlaw0_Headers.calls (k : Nat) (A0 : Option Addr) (c0 : Nat) (l0 : List (S28)) (A1 : Option Addr) (c1 : Nat) (l1 : List (S28)) (r : Bool) (w : World) (hr0 : Kd.C k28 w A0 l0.length l0) (hc0 : l0.length ≤ c0) (hr1 : Kd.C k28 w A1 l1.length l1) (hc1 : l1.length ≤ c1) (h : lockkeeperlaw0_Headers.f k l0 l1 = some r) :
  Calls Tryz.prog 56 #[.slice A0 l0.length c0, .slice A1 l1.length c1] w fun e w' => e = .returned (.bool r) ∧ Drawn0 w w' := by
 have hu28 := Tryz.underlying28
 have HR2 := Aside0.mk hr0
 have HC2 := Aside0.mk hc0
 clear hr0 hc0
 have HR3 := Aside0.mk hr1
 have HC3 := Aside0.mk hc1
 clear hr1 hc1
 have H : (if (l0.length : Int) = (l1.length : Int) then (lockkeeperlaw0_Headers.l0 k l0 l1 0) else (some false)) = some r := h
 clear h
 refine em_ ((l0.length : Int) = (l1.length : Int)) (fun c4 => ?g1p) (fun c4 => ?g1n)
 case' g1p =>
  rw [if_pos c4] at H
  have c4b0 : ((l0.length : Int) == (l1.length : Int)) = true := beq_iff_eq.mpr c4
  have c4b1 : ((l0.length : Int) != (l1.length : Int)) = false := bne_eq_false_iff_eq.mpr c4
  have c4b2 : (l0.length == l1.length) = true := by first | simpa using c4 | (simp at c4 ⊢; omega)
  clear c4
  have H' := Aside0.mk H
  clear H
  have M2_0 := trivial
 case' g1n =>
  rw [if_neg c4] at H
  have c4b0 : ((l0.length : Int) == (l1.length : Int)) = false := beq_eq_false_iff_ne.mpr c4
  have c4b1 : ((l0.length : Int) != (l1.length : Int)) = true := bne_iff_ne.mpr c4
  have c4b2 : (l0.length == l1.length) = false := by first | simpa using c4 | (simp at c4 ⊢; omega)
  obtain rfl := si_ H
  have M2_1 := trivial
 all_goals
  go_enter Tryz.func56, Tryz.ntmps56
  go_wp2
  repeat (go_quiet (fail); try go_wp2)
  first
  | clear M2_0
    go_loopg [5] k (fun kq v4s1 w' => ∃ (x5_1 : Int), v4s1 = .int .i64 x5_1 ∧ Aside0 (lockkeeperlaw0_Headers.l0 kq l0 l1 x5_1 = some r) ∧ Aside0 (kq ≤ k) ∧ Drawn0 w w')
    case atStart => exact ⟨(0), rS, H', ⟨Nat.le_refl _⟩, by repeat (first | exact Drawn0.refl _ | apply Drawn0.step)⟩
    case round =>
     clear H'
     try clear c4
     try clear c4b0
     try clear c4b1
     try clear c4b2
     obtain ⟨x5_1, rfl, HA, HK1, ⟨m1, rfl⟩⟩ := hrel
     cases gk with
     | zero => exact absurd HA.out (by simp [lockkeeperlaw0_Headers.l0])
     | succ k1 =>
      have H := HA.out
      clear HA
      simp only [lockkeeperlaw0_Headers.l0] at H
      refine em_ (x5_1 < (l0.length : Int)) (fun c6 => ?g3p) (fun c6 => ?g3n)
      case' g3p =>
       rw [if_pos c6] at H
       have c6b0 : decide (x5_1 < (l0.length : Int)) = true := decide_eq_true c6
       clear c6
       replace H := iteN_ H; obtain ⟨c7, H⟩ := H
       have c7b0 : decide (0 ≤ x5_1) = true := decide_eq_true c7
       clear c7
       replace H := iteN_ H; obtain ⟨c8, H⟩ := H
       have c8b0 : decide (x5_1 < (l1.length : Int)) = true := decide_eq_true c8
       clear c8
       refine em_ ((!((((rd_T28 l0 x5_1).f0).toList) == (((rd_T28 l1 x5_1).f0).toList)) || (!((((rd_T28 l0 x5_1).f1).toList) == (((rd_T28 l1 x5_1).f1).toList)))) = true) (fun c9 => ?g4p) (fun c9 => ?g4n)
       case' g4p =>
        rw [if_pos c9] at H
        have c9b0 : (!((((rd_T28 l0 x5_1).f0).toList) == (((rd_T28 l1 x5_1).f0).toList)) || (!((((rd_T28 l0 x5_1).f1).toList) == (((rd_T28 l1 x5_1).f1).toList)))) = true := c9
        clear c9
        obtain rfl := si_ H
        have p10 : 0 ≤ (x5_1 : Int) := of_decide_eq_true mE
        have q10 : x5_1 < (l0.length : Int) := of_decide_eq_true mE
        obtain ⟨ad10, e2, hx10_0, hx10_1⟩ := at_T28 HR2.out x5_1 p10 q10
        cases e2
        replace p10 := eq_true p10
        replace q10 := eq_true q10
        have p11 : 0 ≤ (x5_1 : Int) := of_decide_eq_true mE
        have q11 : x5_1 < (l1.length : Int) := of_decide_eq_true mE
        obtain ⟨ad11, e3, hx11_0, hx11_1⟩ := at_T28 HR3.out x5_1 p11 q11
        cases e3
        replace p11 := eq_true p11
        replace q11 := eq_true q11
        have M5_0 := trivial
       case' g4n =>
        rw [if_neg c9] at H
        have c9b0 : (!((((rd_T28 l0 x5_1).f0).toList) == (((rd_T28 l1 x5_1).f0).toList)) || (!((((rd_T28 l0 x5_1).f1).toList) == (((rd_T28 l1 x5_1).f1).toList)))) = false := by simpa using c9
        clear c9
        have H' := Aside0.mk H
        clear H
        have p10 : 0 ≤ (x5_1 : Int) := of_decide_eq_true mE
        have q10 : x5_1 < (l0.length : Int) := of_decide_eq_true mE
        obtain ⟨ad10, e2, hx10_0, hx10_1⟩ := at_T28 HR2.out x5_1 p10 q10
        cases e2
        replace p10 := eq_true p10
        replace q10 := eq_true q10
        have p11 : 0 ≤ (x5_1 : Int) := of_decide_eq_true mE
        have q11 : x5_1 < (l1.length : Int) := of_decide_eq_true mE
        obtain ⟨ad11, e3, hx11_0, hx11_1⟩ := at_T28 HR3.out x5_1 p11 q11
        cases e3
        replace p11 := eq_true p11
        replace q11 := eq_true q11
        have M5_1 := trivial
      case' g3n =>
       rw [if_neg c6] at H
       have c6b0 : decide (x5_1 < (l0.length : Int)) = false := decide_eq_false c6
       clear c6
       obtain rfl := si_ H
       have M5_0 := trivial
      all_goals
       go_wp2
       repeat (go_quiet (fail); try go_wp2)
       first
       | clear M5_0
         go_ret
         exact ⟨by first | rfl | (simp; done) | (simp [*]; done), by repeat (first | exact Drawn0.refl _ | apply Drawn0.step)⟩
       | clear M5_1
         go_roundg k1
         case measure => have := HK1.out; omega
         case rel => exact ⟨(wrap64 (x5_1 + 1)), rS, H', ⟨by have := HK1.out; omega⟩, by repeat (first | exact Drawn0.refl _ | apply Drawn0.step)⟩
  | clear M2_1
    go_ret
    exact ⟨by first | rfl | (simp; done) | (simp [*]; done), by repeat (first | exact Drawn0.refl _ | apply Drawn0.step)⟩

/-! ### lockkeeperlaw0_Req: function 19 -/
def lockkeeperlaw0_Req.f (k : Nat) (a0_0 : ByteArray) (a0_1 : ByteArray) (a0_2 : ByteArray) (a0_3 : Int) (a0_4 : Bool) (l0_5 : List (S28)) (a0_6 : Int) (a0_7 : Int) (a0_8 : Int) (a0_9 : Int) (a1_0 : ByteArray) (a1_1 : ByteArray) (a1_2 : ByteArray) (a1_3 : Int) (a1_4 : Bool) (l1_5 : List (S28)) (a1_6 : Int) (a1_7 : Int) (a1_8 : Int) (a1_9 : Int) : Option (Bool) := if a0_0.toList = a1_0.toList then (if a0_1.toList = a1_1.toList then (if a0_2.toList = a1_2.toList then (if a0_3 = a1_3 then (if (a0_4 == a1_4) = true then ((lockkeeperlaw0_Headers.f k l0_5 l1_5).bind fun t347 => (if t347 = true then (if a0_6 = a1_6 then (if a0_7 = a1_7 then (if a0_8 = a1_8 then (some (a0_9 == a1_9)) else (some false)) else (some false)) else (some false)) else (some false))) else (some false)) else (some false)) else (some false)) else (some false)) else (some false)
theorem lockkeeperlaw0_Req.mono : ∀ a0 a1 a2 a3 a4 a5 a6 a7 a8 a9 a10 a11 a12 a13 a14 a15 a16 a17 a18 a19 k, LeO (lockkeeperlaw0_Req.f k a0 a1 a2 a3 a4 a5 a6 a7 a8 a9 a10 a11 a12 a13 a14 a15 a16 a17 a18 a19) (lockkeeperlaw0_Req.f (k + 1) a0 a1 a2 a3 a4 a5 a6 a7 a8 a9 a10 a11 a12 a13 a14 a15 a16 a17 a18 a19) := by
 intro a0 a1 a2 a3 a4 a5 a6 a7 a8 a9 a10 a11 a12 a13 a14 a15 a16 a17 a18 a19 k
 have hm0 := @lockkeeperlaw0_Headers.mono; unfold lockkeeperlaw0_Req.f
 exact moE

set_option maxHeartbeats 8000000 in
set_option maxRecDepth 100000 in
theorem lockkeeperlaw0_Req.calls (k : Nat) (a0_0 : ByteArray) (a0_1 : ByteArray) (a0_2 : ByteArray) (a0_3 : Int) (a0_4 : Bool) (A0_5 : Option Addr) (c0_5 : Nat) (l0_5 : List (S28)) (a0_6 : Int) (a0_7 : Int) (a0_8 : Int) (a0_9 : Int) (a1_0 : ByteArray) (a1_1 : ByteArray) (a1_2 : ByteArray) (a1_3 : Int) (a1_4 : Bool) (A1_5 : Option Addr) (c1_5 : Nat) (l1_5 : List (S28)) (a1_6 : Int) (a1_7 : Int) (a1_8 : Int) (a1_9 : Int) (r : Bool) (w : World) (hr0_5 : Kd.C k28 w A0_5 l0_5.length l0_5) (hc0_5 : l0_5.length ≤ c0_5) (hr1_5 : Kd.C k28 w A1_5 l1_5.length l1_5) (hc1_5 : l1_5.length ≤ c1_5) (h : lockkeeperlaw0_Req.f k a0_0 a0_1 a0_2 a0_3 a0_4 l0_5 a0_6 a0_7 a0_8 a0_9 a1_0 a1_1 a1_2 a1_3 a1_4 l1_5 a1_6 a1_7 a1_8 a1_9 = some r) :
  Calls Tryz.prog 19 #[.agg #[.string a0_0, .string a0_1, .string a0_2, .int .i64 a0_3, .bool a0_4, .slice A0_5 l0_5.length c0_5, .int .i64 a0_6, .int .u64 a0_7, .int .i64 a0_8, .int .i64 a0_9], .agg #[.string a1_0, .string a1_1, .string a1_2, .int .i64 a1_3, .bool a1_4, .slice A1_5 l1_5.length c1_5, .int .i64 a1_6, .int .u64 a1_7, .int .i64 a1_8, .int .i64 a1_9]] w fun e w' => e = .returned (.bool r) ∧ Below w.heap.size w w' := by
 have hu26 := Tryz.underlying26
 have HR1_5 := Aside0.mk hr0_5
 have HC1_5 := Aside0.mk hc0_5
 clear hr0_5 hc0_5
 have HR2_5 := Aside0.mk hr1_5
 have HC2_5 := Aside0.mk hc1_5
 clear hr1_5 hc1_5
 have HB := Aside0.mk (Below.refl w.heap.size w)
 have H : (if a0_0.toList = a1_0.toList then (if a0_1.toList = a1_1.toList then (if a0_2.toList = a1_2.toList then (if a0_3 = a1_3 then (if (a0_4 == a1_4) = true then ((lockkeeperlaw0_Headers.f k l0_5 l1_5).bind fun t1 => (if t1 = true then (if a0_6 = a1_6 then (if a0_7 = a1_7 then (if a0_8 = a1_8 then (some (a0_9 == a1_9)) else (some false)) else (some false)) else (some false)) else (some false))) else (some false)) else (some false)) else (some false)) else (some false)) else (some false)) = some r := h
 clear h
 refine em_ (a0_0.toList = a1_0.toList) (fun c3 => ?g1p) (fun c3 => ?g1n)
 case' g1p =>
  rw [if_pos c3] at H
  have c3b0 : (a0_0.toList == a1_0.toList) = true := beq_iff_eq.mpr c3
  have c3b1 : (a0_0.toList != a1_0.toList) = false := bne_eq_false_iff_eq.mpr c3
  clear c3
  refine em_ (a0_1.toList = a1_1.toList) (fun c4 => ?g2p) (fun c4 => ?g2n)
  case' g2p =>
   rw [if_pos c4] at H
   have c4b0 : (a0_1.toList == a1_1.toList) = true := beq_iff_eq.mpr c4
   have c4b1 : (a0_1.toList != a1_1.toList) = false := bne_eq_false_iff_eq.mpr c4
   clear c4
   refine em_ (a0_2.toList = a1_2.toList) (fun c5 => ?g3p) (fun c5 => ?g3n)
   case' g3p =>
    rw [if_pos c5] at H
    have c5b0 : (a0_2.toList == a1_2.toList) = true := beq_iff_eq.mpr c5
    have c5b1 : (a0_2.toList != a1_2.toList) = false := bne_eq_false_iff_eq.mpr c5
    clear c5
    refine em_ (a0_3 = a1_3) (fun c6 => ?g4p) (fun c6 => ?g4n)
    case' g4p =>
     rw [if_pos c6] at H
     have c6b0 : (a0_3 == a1_3) = true := beq_iff_eq.mpr c6
     have c6b1 : (a0_3 != a1_3) = false := bne_eq_false_iff_eq.mpr c6
     clear c6
     refine em_ ((a0_4 == a1_4) = true) (fun c7 => ?g5p) (fun c7 => ?g5n)
     case' g5p =>
      rw [if_pos c7] at H
      have c7b0 : (a0_4 == a1_4) = true := c7
      (try (have c7b1 : decide (a0_4 = a1_4) = true := by simpa using c7))
      (try (have c7b2 : (a0_4 == a1_4) = true := by simpa using c7))
      clear c7
      replace H := bd_ H; obtain ⟨t1, A8, H⟩ := H
      refine em_ (t1 = true) (fun c9 => ?g6p) (fun c9 => ?g6n)
      case' g6p =>
       subst c9
       replace H := ifT_ H
       refine em_ (a0_6 = a1_6) (fun c10 => ?g7p) (fun c10 => ?g7n)
       case' g7p =>
        rw [if_pos c10] at H
        have c10b0 : (a0_6 == a1_6) = true := beq_iff_eq.mpr c10
        have c10b1 : (a0_6 != a1_6) = false := bne_eq_false_iff_eq.mpr c10
        clear c10
        refine em_ (a0_7 = a1_7) (fun c11 => ?g8p) (fun c11 => ?g8n)
        case' g8p =>
         rw [if_pos c11] at H
         have c11b0 : (a0_7 == a1_7) = true := beq_iff_eq.mpr c11
         have c11b1 : (a0_7 != a1_7) = false := bne_eq_false_iff_eq.mpr c11
         clear c11
         refine em_ (a0_8 = a1_8) (fun c12 => ?g9p) (fun c12 => ?g9n)
         case' g9p =>
          rw [if_pos c12] at H
          have c12b0 : (a0_8 == a1_8) = true := beq_iff_eq.mpr c12
          have c12b1 : (a0_8 != a1_8) = false := bne_eq_false_iff_eq.mpr c12
          clear c12
          obtain rfl := si_ H
         case' g9n =>
          rw [if_neg c12] at H
          have c12b0 : (a0_8 == a1_8) = false := beq_eq_false_iff_ne.mpr c12
          have c12b1 : (a0_8 != a1_8) = true := bne_iff_ne.mpr c12
          obtain rfl := si_ H
        case' g8n =>
         rw [if_neg c11] at H
         have c11b0 : (a0_7 == a1_7) = false := beq_eq_false_iff_ne.mpr c11
         have c11b1 : (a0_7 != a1_7) = true := bne_iff_ne.mpr c11
         obtain rfl := si_ H
       case' g7n =>
        rw [if_neg c10] at H
        have c10b0 : (a0_6 == a1_6) = false := beq_eq_false_iff_ne.mpr c10
        have c10b1 : (a0_6 != a1_6) = true := bne_iff_ne.mpr c10
        obtain rfl := si_ H
      case' g6n =>
       replace c9 := Bool.eq_false_iff.mpr c9
       subst c9
       replace H := ifF_ H
       obtain rfl := si_ H
     case' g5n =>
      rw [if_neg c7] at H
      have c7b0 : (a0_4 == a1_4) = false := by simpa using c7
      (try (have c7b1 : decide (a0_4 = a1_4) = false := by simpa using c7))
      (try (have c7b2 : (a0_4 == a1_4) = false := by simpa using c7))
      (try (have c7b3 : ¬ (a0_4 = a1_4) := by simpa using c7))
      clear c7
      obtain rfl := si_ H
    case' g4n =>
     rw [if_neg c6] at H
     have c6b0 : (a0_3 == a1_3) = false := beq_eq_false_iff_ne.mpr c6
     have c6b1 : (a0_3 != a1_3) = true := bne_iff_ne.mpr c6
     obtain rfl := si_ H
   case' g3n =>
    rw [if_neg c5] at H
    have c5b0 : (a0_2.toList == a1_2.toList) = false := beq_eq_false_iff_ne.mpr c5
    have c5b1 : (a0_2.toList != a1_2.toList) = true := bne_iff_ne.mpr c5
    obtain rfl := si_ H
  case' g2n =>
   rw [if_neg c4] at H
   have c4b0 : (a0_1.toList == a1_1.toList) = false := beq_eq_false_iff_ne.mpr c4
   have c4b1 : (a0_1.toList != a1_1.toList) = true := bne_iff_ne.mpr c4
   obtain rfl := si_ H
 case' g1n =>
  rw [if_neg c3] at H
  have c3b0 : (a0_0.toList == a1_0.toList) = false := beq_eq_false_iff_ne.mpr c3
  have c3b1 : (a0_0.toList != a1_0.toList) = true := bne_iff_ne.mpr c3
  obtain rfl := si_ H
 all_goals
  go_enter Tryz.func19, Tryz.ntmps19
  go_wp2_with (first | ((with_reducible refine gate_dst (N := 2) rfl ?_); refine bxE (N := 2) (cs := #[.string a0_0, .string a0_1, .string a0_2, .int .i64 a0_3, .bool a0_4, .slice A0_5 l0_5.length c0_5, .int .i64 a0_6, .int .u64 a0_7, .int .i64 a0_8, .int .i64 a0_9]) (t := 26) fun gb1a1 hg w1a2 hbox hb => ?_; obtain ⟨HB', BK1a1, GW1a1⟩ := bx_ bE hg hbox hb; have GE1a1 := GW1a1; clear HB hb hbox hg; have HB := HB'; clear HB') | ((with_reducible refine gate_dst (N := 3) rfl ?_); refine bxE (N := 3) (cs := #[.string a1_0, .string a1_1, .string a1_2, .int .i64 a1_3, .bool a1_4, .slice A1_5 l1_5.length c1_5, .int .i64 a1_6, .int .u64 a1_7, .int .i64 a1_8, .int .i64 a1_9]) (t := 26) fun gb2a1 hg w2a2 hbox hb => ?_; have BK2a1 := Aside0.mk (hbox); have GW2a1 := sE (w := w) hg; have GE2a1 := sE (w := w) hg; have NB1a1_2a1 := neL BK1a1 hg; have NB2a1_1a1 := neG BK1a1 hg; replace BK1a1 := kM BK1a1 hb; replace HB := bS bE hb; clear hb hbox hg; have hnb2a3 := NB1a1_2a1.out; have hnc2a3 := NB2a1_1a1.out; obtain ⟨z2a4_0, z2a4_1, z2a4_2, z2a4_3, z2a4_4, z2a4_5, z2a4_6, z2a4_7, z2a4_8, z2a4_9, zf2a4_0, zf2a4_1, zf2a4_2, zf2a4_3, zf2a4_4, zf2a4_5, zf2a4_6, zf2a4_7, zf2a4_8, zf2a4_9⟩ := bk10_ BK1a1; obtain ⟨z2a5_0, z2a5_1, z2a5_2, z2a5_3, z2a5_4, z2a5_5, z2a5_6, z2a5_7, z2a5_8, z2a5_9, zf2a5_0, zf2a5_1, zf2a5_2, zf2a5_3, zf2a5_4, zf2a5_5, zf2a5_6, zf2a5_7, zf2a5_8, zf2a5_9⟩ := bk10_ BK2a1) | (go_at_call 56; (with_reducible refine (lockkeeperlaw0_Headers.calls k _ _ l0_5 _ _ l1_5 true _ ?side1 ?side2 ?side3 ?side4 A8.out).mono ?_); (case side1 => repeat (first | exact (Kd.C_below HR1_5.out HB.out) | (with_reducible refine Kd.C_alloc ?_ _) | (with_reducible refine Kd.C_drewN ?_ _) | (with_reducible refine Kd.C_drew ?_))); (case side2 => exact HC1_5.out); (case side3 => repeat (first | exact (Kd.C_below HR2_5.out HB.out) | (with_reducible refine Kd.C_alloc ?_ _) | (with_reducible refine Kd.C_drewN ?_ _) | (with_reducible refine Kd.C_drew ?_))); (case side4 => exact HC2_5.out); rintro e w' ⟨rfl, ⟨nd, rfl⟩⟩) | (go_at_call 56; (with_reducible refine (lockkeeperlaw0_Headers.calls k _ _ l0_5 _ _ l1_5 false _ ?side1 ?side2 ?side3 ?side4 A8.out).mono ?_); (case side1 => repeat (first | exact (Kd.C_below HR1_5.out HB.out) | (with_reducible refine Kd.C_alloc ?_ _) | (with_reducible refine Kd.C_drewN ?_ _) | (with_reducible refine Kd.C_drew ?_))); (case side2 => exact HC1_5.out); (case side3 => repeat (first | exact (Kd.C_below HR2_5.out HB.out) | (with_reducible refine Kd.C_alloc ?_ _) | (with_reducible refine Kd.C_drewN ?_ _) | (with_reducible refine Kd.C_drew ?_))); (case side4 => exact HC2_5.out); rintro e w' ⟨rfl, ⟨nd, rfl⟩⟩))
  go_ret
  exact ⟨rE, bE⟩

/-! ### method_Norm: function 57 -/
def method_Norm.f (k : Nat) (a0 : ByteArray) : Option (ByteArray) := (method_known.f k a0).bind fun t348 => (if t348.toList = ([] : List UInt8) then (some a0) else (some t348))
theorem method_Norm.mono : ∀ a0 k, LeO (method_Norm.f k a0) (method_Norm.f (k + 1) a0) := by
 intro a0 k
 have hm0 := @method_known.mono; unfold method_Norm.f
 exact moE

set_option maxHeartbeats 8000000 in
set_option maxRecDepth 100000 in
theorem method_Norm.calls (k : Nat) (a0 : ByteArray) (r : ByteArray) (w : World) (h : method_Norm.f k a0 = some r) :
  Calls Tryz.prog 57 #[.string a0] w fun e w' => e = .returned (.string r) ∧ Below w.heap.size w w' := by
 have HB := Aside0.mk (Below.refl w.heap.size w)
 have H : ((method_known.f k a0).bind fun t1 => (if t1.toList = ([] : List UInt8) then (some a0) else (some t1))) = some r := h
 clear h
 replace H := bd_ H; obtain ⟨t1, A1, H⟩ := H
 refine em_ (t1.toList = ([] : List UInt8)) (fun c2 => ?g1p) (fun c2 => ?g1n)
 case' g1p =>
  rw [if_pos c2] at H
  have c2b0 : (t1.toList == ([] : List UInt8)) = true := beq_iff_eq.mpr c2
  have c2b1 : (t1.toList != ([] : List UInt8)) = false := bne_eq_false_iff_eq.mpr c2
  clear c2
  obtain rfl := si_ H
 case' g1n =>
  rw [if_neg c2] at H
  have c2b0 : (t1.toList == ([] : List UInt8)) = false := beq_eq_false_iff_ne.mpr c2
  have c2b1 : (t1.toList != ([] : List UInt8)) = true := bne_iff_ne.mpr c2
  obtain rfl := si_ H
 all_goals
  go_enter Tryz.func57, Tryz.ntmps57
  go_wp2_with (first | ((with_reducible refine gate_callee (f := 76) rfl ?_); refine gL (some 5) Tryz.func76 #[.string a0] ?_; (with_reducible refine (method_known.calls k a0 _ _ A1.out).mono ?_); rintro e w1a1 ⟨rfl, hb⟩; refine ⟨_, rfl, ?_⟩; replace HB := bS bE hb; (try clear hb)))
  go_ret
  exact ⟨rE, bE⟩

/-! ### strings_HasPrefix: function 157 -/
def strings_HasPrefix.f (a0 : ByteArray) (a1 : ByteArray) : Option (Bool) := (stringslite_HasPrefix.f a0 a1).bind fun t349 => (some t349)
set_option maxHeartbeats 8000000 in
set_option maxRecDepth 100000 in
theorem strings_HasPrefix.calls (a0 : ByteArray) (a1 : ByteArray) (r : Bool) (w : World) (h : strings_HasPrefix.f a0 a1 = some r) :
  Calls Tryz.prog 157 #[.string a0, .string a1] w fun e w' => e = .returned (.bool r) ∧ Drawn0 w w' := by
 have H : ((stringslite_HasPrefix.f a0 a1).bind fun t1 => (some t1)) = some r := h
 clear h
 replace H := bd_ H; obtain ⟨t1, A1, H⟩ := H
 obtain rfl := si_ H
 go_enter Tryz.func157, Tryz.ntmps157
 go_wp2_with (first | ((with_reducible refine gate_callee (f := 186) rfl ?_); refine gL (some 7) Tryz.func186 #[.string a0, .string a1] ?_; (with_reducible refine (stringslite_HasPrefix.calls a0 a1 t1 _ A1.out).mono ?_); rintro e w' ⟨rfl, ⟨nd, rfl⟩⟩; refine ⟨_, rfl, ?_⟩))
 go_ret
 exact ⟨by first | rfl | (simp; done) | (simp [*]; done), by repeat (first | exact Drawn0.refl _ | apply Drawn0.step)⟩

end Go.Proofs.YtfmajangcbgooaaGreatDoor.Pr
