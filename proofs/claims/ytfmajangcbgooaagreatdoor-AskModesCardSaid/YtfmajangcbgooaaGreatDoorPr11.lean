-- Made by a program of this session (wip/xp/xp.py), over the print's words.
import Derived.Test.YtfmajangcbgooaaGreatDoorPr0
import Derived.Test.YtfmajangcbgooaaGreatDoorK0
import Derived.Test.YtfmajangcbgooaaGreatDoorPr10
import Derived.Test.YtfmajangcbgooaaGreatDoorG5
namespace Go.Proofs.YtfmajangcbgooaaGreatDoor.Pr
open Go.RowKit Go.Proofs.YtfmajangcbgooaaGreatDoorW.PrintWords Go.Proofs.YtfmajangcbgooaaGreatDoorW.PrintLast Go.Proofs.YtfmajangcbgooaaGreatDoorW.PrintMore
attribute [local go_sem] max2_int min2_int max_two min_two max_three min_three max_four min_four   -- for this text's walks alone
set_option linter.unusedVariables false
set_option linter.unusedSimpArgs false

/-! ### lockkeeperlaw8_awake: function 15 -/
def lockkeeperlaw8_awake.f (k : Nat)  : Option (Bool) := (ask_Check.f k (⟨#[80, 85, 84]⟩ : ByteArray) (⟨#[104, 116, 116, 112, 58, 47, 47, 98, 47]⟩ : ByteArray) (⟨#[104, 116, 116, 112, 58, 47, 47, 97]⟩ : ByteArray) 3 false ([] : List (S28)) 1 0 0 0).bind fun t333 => (if t333 = 0 then ((ask_Needs.f k (⟨#[80, 85, 84]⟩ : ByteArray) (⟨#[104, 116, 116, 112, 58, 47, 47, 98, 47]⟩ : ByteArray) (⟨#[104, 116, 116, 112, 58, 47, 47, 97]⟩ : ByteArray) 3 false ([] : List (S28)) 1 0 0 0).bind fun t334 => (if t334 = true then ((ask_Cross.f k (⟨#[80, 85, 84]⟩ : ByteArray) (⟨#[104, 116, 116, 112, 58, 47, 47, 98, 47]⟩ : ByteArray) (⟨#[104, 116, 116, 112, 58, 47, 47, 97]⟩ : ByteArray) 3 false ([] : List (S28)) 1 0 0 0).bind fun t335 => (if t335 = true then ((ask_Key.f k (⟨#[80, 85, 84]⟩ : ByteArray) (⟨#[104, 116, 116, 112, 58, 47, 47, 98, 47]⟩ : ByteArray) (⟨#[104, 116, 116, 112, 58, 47, 47, 97]⟩ : ByteArray) 3 false ([] : List (S28)) 1 0 0 0).bind fun t336 => (if t336.toList = ([104, 116, 116, 112, 58, 47, 47, 98, 58, 56, 48] : List UInt8) then ((ask_Check.f k (⟨#[80, 85, 84]⟩ : ByteArray) (⟨#[104, 116, 116, 112, 58, 47, 47, 98, 47]⟩ : ByteArray) (⟨#[104, 116, 116, 112, 58, 47, 47, 97]⟩ : ByteArray) 2 false ([] : List (S28)) 1 0 0 0).bind fun t337 => (some (t337 == 7))) else (some false))) else (some false))) else (some false))) else (some false))
theorem lockkeeperlaw8_awake.mono : ∀ k, LeO (lockkeeperlaw8_awake.f k ) (lockkeeperlaw8_awake.f (k + 1) ) := by
 intro  k
 unfold lockkeeperlaw8_awake.f
 repeat' first
   | (with_reducible exact ask_Check.mono _ _ _ _ _ _ _ _ _ _ _)
   | (with_reducible exact ask_Cross.mono _ _ _ _ _ _ _ _ _ _ _)
   | (with_reducible exact ask_Key.mono _ _ _ _ _ _ _ _ _ _ _)
   | (with_reducible exact ask_Needs.mono _ _ _ _ _ _ _ _ _ _ _)
   | (with_reducible exact LeO.refl _)
   | (with_reducible exact LeO.none _)
   | (with_reducible refine LeO.ite ?_ ?_)
   | (with_reducible refine LeO.bind ?_ (fun _ => ?_))
   | exact ask_Check.mono _ _ _ _ _ _ _ _ _ _ _
   | exact ask_Cross.mono _ _ _ _ _ _ _ _ _ _ _
   | exact ask_Key.mono _ _ _ _ _ _ _ _ _ _ _
   | exact ask_Needs.mono _ _ _ _ _ _ _ _ _ _ _
   | exact LeO.none _
   | refine LeO.ite ?_ ?_
   | refine LeO.bind ?_ (fun _ => ?_)
set_option maxHeartbeats 8000000 in
set_option maxRecDepth 100000 in
theorem lockkeeperlaw8_awake.calls (k : Nat)  (r : Bool) (w : World) (hM_ : Aside0 (LaidW w)) (h : lockkeeperlaw8_awake.f k  = some r) :
  Calls Tryz.prog 15 #[] w fun e w' => e = .returned (.bool r) ∧ Below w.heap.size w w' := by
 have hu26 := Tryz.underlying26
 have HB := Aside0.mk (Below.refl w.heap.size w)
 have H : ((ask_Check.f k (⟨#[80, 85, 84]⟩ : ByteArray) (⟨#[104, 116, 116, 112, 58, 47, 47, 98, 47]⟩ : ByteArray) (⟨#[104, 116, 116, 112, 58, 47, 47, 97]⟩ : ByteArray) 3 false ([] : List (S28)) 1 0 0 0).bind fun t1 => (if t1 = 0 then ((ask_Needs.f k (⟨#[80, 85, 84]⟩ : ByteArray) (⟨#[104, 116, 116, 112, 58, 47, 47, 98, 47]⟩ : ByteArray) (⟨#[104, 116, 116, 112, 58, 47, 47, 97]⟩ : ByteArray) 3 false ([] : List (S28)) 1 0 0 0).bind fun t2 => (if t2 = true then ((ask_Cross.f k (⟨#[80, 85, 84]⟩ : ByteArray) (⟨#[104, 116, 116, 112, 58, 47, 47, 98, 47]⟩ : ByteArray) (⟨#[104, 116, 116, 112, 58, 47, 47, 97]⟩ : ByteArray) 3 false ([] : List (S28)) 1 0 0 0).bind fun t3 => (if t3 = true then ((ask_Key.f k (⟨#[80, 85, 84]⟩ : ByteArray) (⟨#[104, 116, 116, 112, 58, 47, 47, 98, 47]⟩ : ByteArray) (⟨#[104, 116, 116, 112, 58, 47, 47, 97]⟩ : ByteArray) 3 false ([] : List (S28)) 1 0 0 0).bind fun t4 => (if t4.toList = ([104, 116, 116, 112, 58, 47, 47, 98, 58, 56, 48] : List UInt8) then ((ask_Check.f k (⟨#[80, 85, 84]⟩ : ByteArray) (⟨#[104, 116, 116, 112, 58, 47, 47, 98, 47]⟩ : ByteArray) (⟨#[104, 116, 116, 112, 58, 47, 47, 97]⟩ : ByteArray) 2 false ([] : List (S28)) 1 0 0 0).bind fun t5 => (some (t5 == 7))) else (some false))) else (some false))) else (some false))) else (some false))) = some r := h
 clear h
 replace H := bd_ H; obtain ⟨t1, A1, H⟩ := H
 refine Or.elim (Classical.em (t1 = 0)) (fun c2 => ?g1p) (fun c2 => ?g1n)
 case' g1p =>
  rw [if_pos c2] at H
  have c2b0 : (t1 == 0) = true := beq_iff_eq.mpr c2
  have c2b1 : (t1 != 0) = false := bne_eq_false_iff_eq.mpr c2
  clear c2
  replace H := bd_ H; obtain ⟨t2, A3, H⟩ := H
  refine Or.elim (Classical.em (t2 = true)) (fun c4 => ?g2p) (fun c4 => ?g2n)
  case' g2p =>
   subst c4
   replace H := ifT_ H
   replace H := bd_ H; obtain ⟨t3, A5, H⟩ := H
   refine Or.elim (Classical.em (t3 = true)) (fun c6 => ?g3p) (fun c6 => ?g3n)
   case' g3p =>
    subst c6
    replace H := ifT_ H
    replace H := bd_ H; obtain ⟨t4, A7, H⟩ := H
    refine Or.elim (Classical.em (t4.toList = ([104, 116, 116, 112, 58, 47, 47, 98, 58, 56, 48] : List UInt8))) (fun c8 => ?g4p) (fun c8 => ?g4n)
    case' g4p =>
     rw [if_pos c8] at H
     have c8b0 : (t4.toList == ([104, 116, 116, 112, 58, 47, 47, 98, 58, 56, 48] : List UInt8)) = true := beq_iff_eq.mpr c8
     have c8b1 : (t4.toList != ([104, 116, 116, 112, 58, 47, 47, 98, 58, 56, 48] : List UInt8)) = false := bne_eq_false_iff_eq.mpr c8
     clear c8
     replace H := bd_ H; obtain ⟨t5, A9, H⟩ := H
     obtain rfl := Option.some.inj H
    case' g4n =>
     rw [if_neg c8] at H
     have c8b0 : (t4.toList == ([104, 116, 116, 112, 58, 47, 47, 98, 58, 56, 48] : List UInt8)) = false := beq_eq_false_iff_ne.mpr c8
     have c8b1 : (t4.toList != ([104, 116, 116, 112, 58, 47, 47, 98, 58, 56, 48] : List UInt8)) = true := bne_iff_ne.mpr c8
     obtain rfl := Option.some.inj H
   case' g3n =>
    replace c6 := Bool.eq_false_iff.mpr c6
    subst c6
    replace H := ifF_ H
    obtain rfl := Option.some.inj H
  case' g2n =>
   replace c4 := Bool.eq_false_iff.mpr c4
   subst c4
   replace H := ifF_ H
   obtain rfl := Option.some.inj H
 case' g1n =>
  rw [if_neg c2] at H
  have c2b0 : (t1 == 0) = false := beq_eq_false_iff_ne.mpr c2
  have c2b1 : (t1 != 0) = true := bne_iff_ne.mpr c2
  obtain rfl := Option.some.inj H
 all_goals
  go_enter Tryz.func15, Tryz.ntmps15
  go_wp2_with (first | ((with_reducible refine gate_dst (N := 1) rfl ?_); refine bxE (N := 1) (cs := #[.string (⟨#[]⟩ : ByteArray), .string (⟨#[]⟩ : ByteArray), .string (⟨#[]⟩ : ByteArray), .int .i64 0, .bool false, .slice none 0 0, .int .i64 0, .int .u64 0, .int .i64 0, .int .i64 0]) (t := 26) fun gb1a1 hg w1a2 hbox hb => ?_; obtain ⟨HB', BK1a1, GW1a1⟩ := bx_ bE hg hbox hb; have GE1a1 := GW1a1; clear HB hb hbox hg; have HB := HB'; clear HB'; obtain ⟨hcz1a3_0, hcz1a3_1, hcz1a3_2, hcz1a3_3, hcz1a3_4, hcz1a3_5, hcz1a3_6, hcz1a3_7, hcz1a3_8, hcz1a3_9, hfz1a3_0, hfz1a3_1, hfz1a3_2, hfz1a3_3, hfz1a3_4, hfz1a3_5, hfz1a3_6, hfz1a3_7, hfz1a3_8, hfz1a3_9⟩ := bk10_ BK1a1) | ((with_reducible refine gate_dst (N := 2) rfl ?_); refine bxE (N := 2) (cs := #[.string (⟨#[]⟩ : ByteArray), .string (⟨#[]⟩ : ByteArray), .string (⟨#[]⟩ : ByteArray), .int .i64 0, .bool false, .slice none 0 0, .int .i64 0, .int .u64 0, .int .i64 0, .int .i64 0]) (t := 26) fun gb2a1 hg w2a2 hbox hb => ?_; have n0_ := Aside0.mk (blk_below (g := gb1a1) (o := .cells #[.string (⟨#[80, 85, 84]⟩ : ByteArray), .string (⟨#[104, 116, 116, 112, 58, 47, 47, 98, 47]⟩ : ByteArray), .string (⟨#[104, 116, 116, 112, 58, 47, 47, 97]⟩ : ByteArray), .int .i64 3, .bool false, .slice none 0 0, .int .i64 1, .int .u64 0, .int .i64 0, .int .i64 0] 26 (0, 0)) (kT) hb); have n1_ := bS bE hb; have n2_ := Aside0.mk (hbox); have n3_ := sE (w := w) hg; have n4_ := sE (w := w) hg; have n5_ := Aside0.mk ((by rw [hg]; exact Nat.ne_of_lt (blk_lt (g := gb1a1) (o := .cells #[.string (⟨#[80, 85, 84]⟩ : ByteArray), .string (⟨#[104, 116, 116, 112, 58, 47, 47, 98, 47]⟩ : ByteArray), .string (⟨#[104, 116, 116, 112, 58, 47, 47, 97]⟩ : ByteArray), .int .i64 3, .bool false, .slice none 0 0, .int .i64 1, .int .u64 0, .int .i64 0, .int .i64 0] 26 (0, 0)) (kT)) : gb1a1 ≠ gb2a1)); have n6_ := Aside0.mk ((by rw [hg]; exact Nat.ne_of_gt (blk_lt (g := gb1a1) (o := .cells #[.string (⟨#[80, 85, 84]⟩ : ByteArray), .string (⟨#[104, 116, 116, 112, 58, 47, 47, 98, 47]⟩ : ByteArray), .string (⟨#[104, 116, 116, 112, 58, 47, 47, 97]⟩ : ByteArray), .int .i64 3, .bool false, .slice none 0 0, .int .i64 1, .int .u64 0, .int .i64 0, .int .i64 0] 26 (0, 0)) (kT)) : gb2a1 ≠ gb1a1)); clear BK1a1; clear HB; have BK1a1 := n0_; have HB := n1_; have BK2a1 := n2_; have GW2a1 := n3_; have GE2a1 := n4_; have NB1a1_2a1 := n5_; have NB2a1_1a1 := n6_; clear n0_ n1_ n2_ n3_ n4_ n5_ n6_; clear hb hbox hg; have hnb2a3 := NB2a1_1a1.out; have hnc2a3 := NB1a1_2a1.out; obtain ⟨hcz2a4_0, hcz2a4_1, hcz2a4_2, hcz2a4_3, hcz2a4_4, hcz2a4_5, hcz2a4_6, hcz2a4_7, hcz2a4_8, hcz2a4_9, hfz2a4_0, hfz2a4_1, hfz2a4_2, hfz2a4_3, hfz2a4_4, hfz2a4_5, hfz2a4_6, hfz2a4_7, hfz2a4_8, hfz2a4_9⟩ := bk10_ BK2a1; obtain ⟨hcz2a5_0, hcz2a5_1, hcz2a5_2, hcz2a5_3, hcz2a5_4, hcz2a5_5, hcz2a5_6, hcz2a5_7, hcz2a5_8, hcz2a5_9, hfz2a5_0, hfz2a5_1, hfz2a5_2, hfz2a5_3, hfz2a5_4, hfz2a5_5, hfz2a5_6, hfz2a5_7, hfz2a5_8, hfz2a5_9⟩ := bk10_ BK1a1) | ((with_reducible refine gate_callee (f := 13) rfl ?_); refine gL (some 7) Tryz.func13 #[.agg #[.string (⟨#[80, 85, 84]⟩ : ByteArray), .string (⟨#[104, 116, 116, 112, 58, 47, 47, 98, 47]⟩ : ByteArray), .string (⟨#[104, 116, 116, 112, 58, 47, 47, 97]⟩ : ByteArray), .int .i64 3, .bool false, .slice none 0 0, .int .i64 1, .int .u64 0, .int .i64 0, .int .i64 0]] ?_; (refine (ask_Check.calls k (⟨#[80, 85, 84]⟩ : ByteArray) (⟨#[104, 116, 116, 112, 58, 47, 47, 98, 47]⟩ : ByteArray) (⟨#[104, 116, 116, 112, 58, 47, 47, 97]⟩ : ByteArray) 3 false _ _ ([] : List (S28)) 1 0 0 0 t1 _ ?side1 ?side2 ?side3 A1.out).mono ?_); (case side1 => exact Kd.C_nil _ _); (case side2 => exact Nat.le_refl _); (case side3 => exact ⟨lE⟩); rintro e w3a1 ⟨rfl, hb⟩; refine ⟨_, rfl, ?_⟩; have n0_ := kF BK1a1 hb; have n1_ := Aside0.mk (blk_below (g := gb2a1) (o := .cells #[.string (⟨#[80, 85, 84]⟩ : ByteArray), .string (⟨#[104, 116, 116, 112, 58, 47, 47, 98, 47]⟩ : ByteArray), .string (⟨#[104, 116, 116, 112, 58, 47, 47, 97]⟩ : ByteArray), .int .i64 2, .bool false, .slice none 0 0, .int .i64 1, .int .u64 0, .int .i64 0, .int .i64 0] 26 (0, 0)) (kT) hb); have n2_ := bS bE hb; clear BK1a1; clear BK2a1; clear HB; have BK1a1 := n0_; have BK2a1 := n1_; have HB := n2_; clear n0_ n1_ n2_; (try clear hb); (try clear hb2); (try clear hk); (try clear hi); obtain ⟨hcz3a2_0, hcz3a2_1, hcz3a2_2, hcz3a2_3, hcz3a2_4, hcz3a2_5, hcz3a2_6, hcz3a2_7, hcz3a2_8, hcz3a2_9, hfz3a2_0, hfz3a2_1, hfz3a2_2, hfz3a2_3, hfz3a2_4, hfz3a2_5, hfz3a2_6, hfz3a2_7, hfz3a2_8, hfz3a2_9⟩ := bk10_ BK1a1) | (go_at_call 14; (refine (ask_Needs.calls k (⟨#[80, 85, 84]⟩ : ByteArray) (⟨#[104, 116, 116, 112, 58, 47, 47, 98, 47]⟩ : ByteArray) (⟨#[104, 116, 116, 112, 58, 47, 47, 97]⟩ : ByteArray) 3 false _ _ ([] : List (S28)) 1 0 0 0 true _ ?side1 ?side2 ?side3 A3.out).mono ?_); (case side1 => exact Kd.C_nil _ _); (case side2 => exact Nat.le_refl _); (case side3 => exact ⟨lE⟩); rintro e w4a1 ⟨rfl, hb⟩; replace BK1a1 := kM BK1a1 hb; replace BK2a1 := kM BK2a1 hb; replace HB := bS bE hb; (try clear hb); obtain ⟨hcz4a2_0, hcz4a2_1, hcz4a2_2, hcz4a2_3, hcz4a2_4, hcz4a2_5, hcz4a2_6, hcz4a2_7, hcz4a2_8, hcz4a2_9, hfz4a2_0, hfz4a2_1, hfz4a2_2, hfz4a2_3, hfz4a2_4, hfz4a2_5, hfz4a2_6, hfz4a2_7, hfz4a2_8, hfz4a2_9⟩ := bk10_ BK1a1) | (go_at_call 16; (refine (ask_Cross.calls k (⟨#[80, 85, 84]⟩ : ByteArray) (⟨#[104, 116, 116, 112, 58, 47, 47, 98, 47]⟩ : ByteArray) (⟨#[104, 116, 116, 112, 58, 47, 47, 97]⟩ : ByteArray) 3 false _ _ ([] : List (S28)) 1 0 0 0 true _ ?side1 ?side2 ?side3 A5.out).mono ?_); (case side1 => exact Kd.C_nil _ _); (case side2 => exact Nat.le_refl _); (case side3 => exact ⟨lE⟩); rintro e w5a1 ⟨rfl, hb⟩; replace BK1a1 := kM BK1a1 hb; replace BK2a1 := kM BK2a1 hb; replace HB := bS bE hb; (try clear hb); obtain ⟨hcz5a2_0, hcz5a2_1, hcz5a2_2, hcz5a2_3, hcz5a2_4, hcz5a2_5, hcz5a2_6, hcz5a2_7, hcz5a2_8, hcz5a2_9, hfz5a2_0, hfz5a2_1, hfz5a2_2, hfz5a2_3, hfz5a2_4, hfz5a2_5, hfz5a2_6, hfz5a2_7, hfz5a2_8, hfz5a2_9⟩ := bk10_ BK1a1) | (go_at_call 27; (refine (ask_Key.calls k (⟨#[80, 85, 84]⟩ : ByteArray) (⟨#[104, 116, 116, 112, 58, 47, 47, 98, 47]⟩ : ByteArray) (⟨#[104, 116, 116, 112, 58, 47, 47, 97]⟩ : ByteArray) 3 false _ _ ([] : List (S28)) 1 0 0 0 t4 _ ?side1 ?side2 ?side3 A7.out).mono ?_); (case side1 => exact Kd.C_nil _ _); (case side2 => exact Nat.le_refl _); (case side3 => exact ⟨lE⟩); rintro e w6a1 ⟨rfl, hb⟩; replace BK1a1 := kM BK1a1 hb; replace BK2a1 := kM BK2a1 hb; replace HB := bS bE hb; (try clear hb); obtain ⟨hcz6a2_0, hcz6a2_1, hcz6a2_2, hcz6a2_3, hcz6a2_4, hcz6a2_5, hcz6a2_6, hcz6a2_7, hcz6a2_8, hcz6a2_9, hfz6a2_0, hfz6a2_1, hfz6a2_2, hfz6a2_3, hfz6a2_4, hfz6a2_5, hfz6a2_6, hfz6a2_7, hfz6a2_8, hfz6a2_9⟩ := bk10_ BK2a1) | (go_at_call 13; (refine (ask_Check.calls k (⟨#[80, 85, 84]⟩ : ByteArray) (⟨#[104, 116, 116, 112, 58, 47, 47, 98, 47]⟩ : ByteArray) (⟨#[104, 116, 116, 112, 58, 47, 47, 97]⟩ : ByteArray) 2 false _ _ ([] : List (S28)) 1 0 0 0 t5 _ ?side1 ?side2 ?side3 A9.out).mono ?_); (case side1 => exact Kd.C_nil _ _); (case side2 => exact Nat.le_refl _); (case side3 => exact ⟨lE⟩); rintro e w7a1 ⟨rfl, hb⟩; replace BK1a1 := kM BK1a1 hb; replace BK2a1 := kM BK2a1 hb; replace HB := bS bE hb; (try clear hb)) | (go_at_call 16; (refine (ask_Cross.calls k (⟨#[80, 85, 84]⟩ : ByteArray) (⟨#[104, 116, 116, 112, 58, 47, 47, 98, 47]⟩ : ByteArray) (⟨#[104, 116, 116, 112, 58, 47, 47, 97]⟩ : ByteArray) 3 false _ _ ([] : List (S28)) 1 0 0 0 false _ ?side1 ?side2 ?side3 A5.out).mono ?_); (case side1 => exact Kd.C_nil _ _); (case side2 => exact Nat.le_refl _); (case side3 => exact ⟨lE⟩); rintro e w8a1 ⟨rfl, hb⟩; replace BK1a1 := kM BK1a1 hb; replace BK2a1 := kM BK2a1 hb; replace HB := bS bE hb; (try clear hb)) | (go_at_call 14; (refine (ask_Needs.calls k (⟨#[80, 85, 84]⟩ : ByteArray) (⟨#[104, 116, 116, 112, 58, 47, 47, 98, 47]⟩ : ByteArray) (⟨#[104, 116, 116, 112, 58, 47, 47, 97]⟩ : ByteArray) 3 false _ _ ([] : List (S28)) 1 0 0 0 false _ ?side1 ?side2 ?side3 A3.out).mono ?_); (case side1 => exact Kd.C_nil _ _); (case side2 => exact Nat.le_refl _); (case side3 => exact ⟨lE⟩); rintro e w9a1 ⟨rfl, hb⟩; replace BK1a1 := kM BK1a1 hb; replace BK2a1 := kM BK2a1 hb; replace HB := bS bE hb; (try clear hb)))
  go_ret
  exact ⟨rE, bE⟩

end Go.Proofs.YtfmajangcbgooaaGreatDoor.Pr
