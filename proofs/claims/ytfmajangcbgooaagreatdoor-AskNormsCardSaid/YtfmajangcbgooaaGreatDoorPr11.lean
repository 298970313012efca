-- Made by a program of this session (wip/xp/xp.py), over the print's words.
import Derived.Test.YtfmajangcbgooaaGreatDoorPr0
import Derived.Test.YtfmajangcbgooaaGreatDoorK0
import Derived.Test.YtfmajangcbgooaaGreatDoorPr10
import Derived.Test.YtfmajangcbgooaaGreatDoorG0
import Derived.Test.YtfmajangcbgooaaGreatDoorG1
namespace Go.Proofs.YtfmajangcbgooaaGreatDoor.Pr
open Go.RowKit Go.Proofs.YtfmajangcbgooaaGreatDoorW.PrintWords Go.Proofs.YtfmajangcbgooaaGreatDoorW.PrintLast Go.Proofs.YtfmajangcbgooaaGreatDoorW.PrintMore
attribute [local go_sem] max2_int min2_int max_two min_two max_three min_three max_four min_four   -- for this text's walks alone
set_option linter.unusedVariables false
set_option linter.unusedSimpArgs false

/-! ### header_Check: function 101 -/
def header_Check.l0 : Nat → List (S28) → Int → Int → Option (Int)
 | 0, _, _, _ => none
 | k + 1, x8, x9, x10 => if x10 < x9 then (if 0 ≤ x10 then (if x10 < (x8.length : Int) then ((header_isHeader.f k ((rd_T28 x8 x10).f0) ((rd_T28 x8 x10).f1)).bind fun t199 => (if t199 = true then (header_Check.l0 k x8 x9 (wrap64 (x10 + 1))) else (some 6))) else (none)) else (none)) else (some 0)
def header_Check.f (k : Nat) (l0 : List (S28)) : Option (Int) := if (l0.length : Int) > 32 then (some 4) else (header_Check.l0 k l0 (l0.length : Int) 0)
theorem header_Check.mono_l : ∀ k, (∀ y0 y1 y2, LeO (header_Check.l0 k y0 y1 y2) (header_Check.l0 (k + 1) y0 y1 y2))
 | 0 => fun _ _ _ r h => by simp [header_Check.l0] at h
 | k + 1 => by
  have ih0 := header_Check.mono_l k
  ·intros
   have hm0 := @header_isHeader.mono; unfold header_Check.l0
   exact moE

theorem header_Check.mono : ∀ a0 k, LeO (header_Check.f k a0) (header_Check.f (k + 1) a0) := by
 intro a0 k
 have ih0 := header_Check.mono_l k
 have hm0 := @header_isHeader.mono; unfold header_Check.f
 exact moE

set_option maxHeartbeats 8000000 in
set_option maxRecDepth 100000 in
theorem header_Check.calls (k : Nat) (A0 : Option Addr) (c0 : Nat) (l0 : List (S28)) (r : Int) (w : World) (hr0 : Kd.C k28 w A0 l0.length l0) (hc0 : l0.length ≤ c0) (h : header_Check.f k l0 = some r) :
  Calls Tryz.prog 101 #[.slice A0 l0.length c0] w fun e w' => e = .returned (.int .i64 r) ∧ Below w.heap.size w w' := by
 have hu28 := Tryz.underlying28
 have HR1 := Aside0.mk hr0
 have HC1 := Aside0.mk hc0
 clear hr0 hc0
 have HB := Aside0.mk (Below.refl w.heap.size w)
 have H : (if (l0.length : Int) > 32 then (some 4) else (header_Check.l0 k l0 (l0.length : Int) 0)) = some r := h
 clear h
 refine em_ ((l0.length : Int) > 32) (fun c2 => ?g1p) (fun c2 => ?g1n)
 case' g1p =>
  rw [if_pos c2] at H
  have c2b0 : decide (32 < (l0.length : Int)) = true := decide_eq_true c2
  have c2b1 : decide (32 < l0.length) = true := decide_eq_true (by omega)
  clear c2
  obtain rfl := si_ H
  have M2_0 := trivial
 case' g1n =>
  rw [if_neg c2] at H
  have c2b0 : decide (32 < (l0.length : Int)) = false := decide_eq_false c2
  have c2b1 : decide (32 < l0.length) = false := decide_eq_false (by omega)
  clear c2
  have H' := Aside0.mk H
  clear H
  have M2_1 := trivial
 all_goals
  go_enter Tryz.func101, Tryz.ntmps101
  go_wp2
  first
  | clear M2_0
    go_ret
    exact ⟨rE, bE⟩
  | clear M2_1
    go_loopg [10] k (fun kq v3s1 w' => ∃ (x10_1 : Int), v3s1 = .int .i64 x10_1 ∧ Aside0 (header_Check.l0 kq l0 (l0.length : Int) x10_1 = some r) ∧ Aside0 (kq ≤ k) ∧ Aside0 (Below w.heap.size w w'))
    case atStart => exact ⟨(0), rS, H', ⟨Nat.le_refl _⟩, ⟨bE⟩⟩
    case round =>
     clear H'
     try clear c2
     try clear c2b0
     try clear c2b1
     obtain ⟨x10_1, rfl, HA, HK1, HB⟩ := hrel
     cases gk with
     | zero => exact absurd HA.out (by simp [header_Check.l0])
     | succ k1 =>
      have H := HA.out
      clear HA
      simp only [header_Check.l0] at H
      refine em_ (x10_1 < (l0.length : Int)) (fun c4 => ?g3p) (fun c4 => ?g3n)
      case' g3p =>
       rw [if_pos c4] at H
       have c4b0 : decide (x10_1 < (l0.length : Int)) = true := decide_eq_true c4
       clear c4
       replace H := iteN_ H; obtain ⟨c5, H⟩ := H
       have c5b0 : decide (0 ≤ x10_1) = true := decide_eq_true c5
       clear c5
       replace H := iteN_ H; obtain ⟨c6, H⟩ := H
       have c6b0 : decide (x10_1 < (l0.length : Int)) = true := decide_eq_true c6
       clear c6
       replace H := bd_ H; obtain ⟨t1, A7, H⟩ := H
       refine em_ (t1 = true) (fun c8 => ?g4p) (fun c8 => ?g4n)
       case' g4p =>
        subst c8
        replace H := ifT_ H
        have H' := Aside0.mk H
        clear H
        have p9 : 0 ≤ (x10_1 : Int) := of_decide_eq_true mE
        have q9 : x10_1 < (l0.length : Int) := of_decide_eq_true mE
        obtain ⟨ad9, e2, hx9_0, hx9_1⟩ := at_T28 HR1.out x10_1 p9 q9
        cases e2
        replace hx9_0 := (HB.out.cell (World.block_lt_of_cell? w _ hx9_0)).trans hx9_0
        replace hx9_1 := (HB.out.cell (World.block_lt_of_cell? w _ hx9_1)).trans hx9_1
        replace p9 := eq_true p9
        replace q9 := eq_true q9
        have M5_0 := trivial
       case' g4n =>
        replace c8 := Bool.eq_false_iff.mpr c8
        subst c8
        replace H := ifF_ H
        obtain rfl := si_ H
        have p9 : 0 ≤ (x10_1 : Int) := of_decide_eq_true mE
        have q9 : x10_1 < (l0.length : Int) := of_decide_eq_true mE
        obtain ⟨ad9, e2, hx9_0, hx9_1⟩ := at_T28 HR1.out x10_1 p9 q9
        cases e2
        replace hx9_0 := (HB.out.cell (World.block_lt_of_cell? w _ hx9_0)).trans hx9_0
        replace hx9_1 := (HB.out.cell (World.block_lt_of_cell? w _ hx9_1)).trans hx9_1
        replace p9 := eq_true p9
        replace q9 := eq_true q9
        have M5_1 := trivial
      case' g3n =>
       rw [if_neg c4] at H
       have c4b0 : decide (x10_1 < (l0.length : Int)) = false := decide_eq_false c4
       clear c4
       obtain rfl := si_ H
       have M5_1 := trivial
      all_goals
       go_wp2_with (first | ((with_reducible refine gate_dst (N := 4) rfl ?_); refine bxE (N := 4) (cs := #[.string (⟨#[]⟩ : ByteArray), .string (⟨#[]⟩ : ByteArray)]) (t := 28) fun gb1a1 hg w1a2 hbox hb => ?_; obtain ⟨HB', BK1a1, GW1a1⟩ := bx_ bE hg hbox hb; have GE1a1 := GW1a1; clear HB hb hbox hg; have HB := HB'; clear HB'; obtain ⟨z1a3_0, z1a3_1, zf1a3_0, zf1a3_1⟩ := bk2_ BK1a1) | ((with_reducible refine gate_callee (f := 148) rfl ?_); refine gL (some 15) Tryz.func148 #[.agg #[.string ((rd_T28 l0 x10_1).f0), .string ((rd_T28 l0 x10_1).f1)]] ?_; (with_reducible refine (header_isHeader.calls k1 ((rd_T28 l0 x10_1).f0) ((rd_T28 l0 x10_1).f1) _ _ A7.out).mono ?_); rintro e w2a1 ⟨rfl, hb⟩; refine ⟨_, rfl, ?_⟩; have n0_ := Aside0.mk (blk_below (g := gb1a1) (o := .cells #[.string ((rd_T28 l0 x10_1).f0), .string ((rd_T28 l0 x10_1).f1)] 28 (0, 0)) (kT) hb); have n1_ := bS bE hb; clear BK1a1; clear HB; have BK1a1 := n0_; have HB := n1_; clear n0_ n1_; (try clear hb); (try clear hb2); (try clear hk); (try clear hi)))
       first
       | clear M5_0
         go_roundg k1
         case measure => have := HK1.out; omega
         case rel => exact ⟨(wrap64 (x10_1 + 1)), rS, H', ⟨by have := HK1.out; omega⟩, ⟨bE⟩⟩
       | clear M5_1
         go_ret
         exact ⟨rE, bE⟩

/-! ### ask_fields: function 47 -/
def ask_fields.j0 : Nat → Bool → ByteArray → ByteArray → ByteArray → Int → Bool → List (S28) → Int → Int → Int → Int → Option (Int)
 | 0, _, _, _, _, _, _, _, _, _, _, _ => none
 | k + 1, x21, x201000, x201001, x201002, x201003, x201004, x201005, x201006, x201007, x201008, x201009 => if x21 = true then (some 8) else (if x201007 > 600 then (some 9) else (if x201008 < 0 then (some 2) else (if x201009 < 0 then (some 2) else (some 0))))
def ask_fields.f (k : Nat) (a0_0 : ByteArray) (a0_1 : ByteArray) (a0_2 : ByteArray) (a0_3 : Int) (a0_4 : Bool) (l0_5 : List (S28)) (a0_6 : Int) (a0_7 : Int) (a0_8 : Int) (a0_9 : Int) : Option (Int) := (method_Check.f k a0_0).bind fun t201 => (if t201 = 0 then ((ask_isMode.f a0_3).bind fun t202 => (if t202 = true then ((header_Check.f k l0_5).bind fun t203 => (if t203 = 0 then (if a0_6 < 1 then (ask_fields.j0 k true a0_0 a0_1 a0_2 a0_3 a0_4 l0_5 a0_6 a0_7 a0_8 a0_9) else (ask_fields.j0 k (decide (a0_6 > 6)) a0_0 a0_1 a0_2 a0_3 a0_4 l0_5 a0_6 a0_7 a0_8 a0_9)) else (some t203))) else (some 7))) else (some t201))
theorem ask_fields.mono_l : ∀ k, (∀ y0 y1 y2 y3 y4 y5 y6 y7 y8 y9 y10, LeO (ask_fields.j0 k y0 y1 y2 y3 y4 y5 y6 y7 y8 y9 y10) (ask_fields.j0 (k + 1) y0 y1 y2 y3 y4 y5 y6 y7 y8 y9 y10))
 | 0 => fun _ _ _ _ _ _ _ _ _ _ _ r h => by simp [ask_fields.j0] at h
 | k + 1 => by
  have ih0 := ask_fields.mono_l k
  ·intros
   have hm0 := @header_Check.mono; have hm1 := @method_Check.mono; unfold ask_fields.j0
   exact moE

theorem ask_fields.mono : ∀ a0 a1 a2 a3 a4 a5 a6 a7 a8 a9 k, LeO (ask_fields.f k a0 a1 a2 a3 a4 a5 a6 a7 a8 a9) (ask_fields.f (k + 1) a0 a1 a2 a3 a4 a5 a6 a7 a8 a9) := by
 intro a0 a1 a2 a3 a4 a5 a6 a7 a8 a9 k
 have ih0 := ask_fields.mono_l k
 have hm0 := @header_Check.mono; have hm1 := @method_Check.mono; unfold ask_fields.f
 exact moE

set_option maxHeartbeats 8000000 in
set_option maxRecDepth 100000 in
theorem ask_fields.calls (k : Nat) (a0_0 : ByteArray) (a0_1 : ByteArray) (a0_2 : ByteArray) (a0_3 : Int) (a0_4 : Bool) (A0_5 : Option Addr) (c0_5 : Nat) (l0_5 : List (S28)) (a0_6 : Int) (a0_7 : Int) (a0_8 : Int) (a0_9 : Int) (r : Int) (w : World) (hr0_5 : Kd.C k28 w A0_5 l0_5.length l0_5) (hc0_5 : l0_5.length ≤ c0_5) (h : ask_fields.f k a0_0 a0_1 a0_2 a0_3 a0_4 l0_5 a0_6 a0_7 a0_8 a0_9 = some r) :
  Calls Tryz.prog 47 #[.agg #[.string a0_0, .string a0_1, .string a0_2, .int .i64 a0_3, .bool a0_4, .slice A0_5 l0_5.length c0_5, .int .i64 a0_6, .int .u64 a0_7, .int .i64 a0_8, .int .i64 a0_9]] w fun e w' => e = .returned (.int .i64 r) ∧ Below w.heap.size w w' := by
 have hu26 := Tryz.underlying26
 have HR1_5 := Aside0.mk hr0_5
 have HC1_5 := Aside0.mk hc0_5
 clear hr0_5 hc0_5
 have HB := Aside0.mk (Below.refl w.heap.size w)
 have H : ((method_Check.f k a0_0).bind fun t1 => (if t1 = 0 then ((ask_isMode.f a0_3).bind fun t2 => (if t2 = true then ((header_Check.f k l0_5).bind fun t3 => (if t3 = 0 then (if a0_6 < 1 then (ask_fields.j0 k true a0_0 a0_1 a0_2 a0_3 a0_4 l0_5 a0_6 a0_7 a0_8 a0_9) else (ask_fields.j0 k (decide (a0_6 > 6)) a0_0 a0_1 a0_2 a0_3 a0_4 l0_5 a0_6 a0_7 a0_8 a0_9)) else (some t3))) else (some 7))) else (some t1))) = some r := h
 clear h
 replace H := bd_ H; obtain ⟨t1, A2, H⟩ := H
 refine em_ (t1 = 0) (fun c3 => ?g1p) (fun c3 => ?g1n)
 case' g1p =>
  rw [if_pos c3] at H
  have c3b0 : (t1 == 0) = true := beq_iff_eq.mpr c3
  have c3b1 : (t1 != 0) = false := bne_eq_false_iff_eq.mpr c3
  clear c3
  replace H := bd_ H; obtain ⟨t2, A4, H⟩ := H
  refine em_ (t2 = true) (fun c5 => ?g2p) (fun c5 => ?g2n)
  case' g2p =>
   subst c5
   replace H := ifT_ H
   replace H := bd_ H; obtain ⟨t3, A6, H⟩ := H
   refine em_ (t3 = 0) (fun c7 => ?g3p) (fun c7 => ?g3n)
   case' g3p =>
    rw [if_pos c7] at H
    have c7b0 : (t3 == 0) = true := beq_iff_eq.mpr c7
    have c7b1 : (t3 != 0) = false := bne_eq_false_iff_eq.mpr c7
    clear c7
    have HC8 := Aside0.mk H
    clear H
    have M4_0 := trivial
   case' g3n =>
    rw [if_neg c7] at H
    have c7b0 : (t3 == 0) = false := beq_eq_false_iff_ne.mpr c7
    have c7b1 : (t3 != 0) = true := bne_iff_ne.mpr c7
    obtain rfl := si_ H
    have M4_1 := trivial
  case' g2n =>
   replace c5 := Bool.eq_false_iff.mpr c5
   subst c5
   replace H := ifF_ H
   obtain rfl := si_ H
   have M4_1 := trivial
 case' g1n =>
  rw [if_neg c3] at H
  have c3b0 : (t1 == 0) = false := beq_eq_false_iff_ne.mpr c3
  have c3b1 : (t1 != 0) = true := bne_iff_ne.mpr c3
  obtain rfl := si_ H
  have M4_1 := trivial
 all_goals
  go_enter Tryz.func47, Tryz.ntmps47
  first
  | clear M4_0
    go_upto_region 9 with (first | ((with_reducible refine gate_dst (N := 1) rfl ?_); refine bxE (N := 1) (cs := #[.string a0_0, .string a0_1, .string a0_2, .int .i64 a0_3, .bool a0_4, .slice A0_5 l0_5.length c0_5, .int .i64 a0_6, .int .u64 a0_7, .int .i64 a0_8, .int .i64 a0_9]) (t := 26) fun gb1a1 hg w1a2 hbox hb => ?_; obtain ⟨HB', BK1a1, GW1a1⟩ := bx_ bE hg hbox hb; have GE1a1 := GW1a1; clear HB hb hbox hg; have HB := HB'; clear HB'; obtain ⟨z1a3_0, z1a3_1, z1a3_2, z1a3_3, z1a3_4, z1a3_5, z1a3_6, z1a3_7, z1a3_8, z1a3_9, zf1a3_0, zf1a3_1, zf1a3_2, zf1a3_3, zf1a3_4, zf1a3_5, zf1a3_6, zf1a3_7, zf1a3_8, zf1a3_9⟩ := bk10_ BK1a1) | ((with_reducible refine gate_callee (f := 99) rfl ?_); refine gL (some 7) Tryz.func99 #[.string a0_0] ?_; (with_reducible refine (method_Check.calls k a0_0 t1 _ A2.out).mono ?_); rintro e w2a1 ⟨rfl, hb⟩; refine ⟨_, rfl, ?_⟩; replace BK1a1 := kM BK1a1 hb; replace HB := bS bE hb; (try clear hb); obtain ⟨z2a2_0, z2a2_1, z2a2_2, z2a2_3, z2a2_4, z2a2_5, z2a2_6, z2a2_7, z2a2_8, z2a2_9, zf2a2_0, zf2a2_1, zf2a2_2, zf2a2_3, zf2a2_4, zf2a2_5, zf2a2_6, zf2a2_7, zf2a2_8, zf2a2_9⟩ := bk10_ BK1a1) | ((with_reducible refine gate_callee (f := 100) rfl ?_); refine gL (some 13) Tryz.func100 #[.int .i64 a0_3] ?_; (with_reducible refine (ask_isMode.calls a0_3 true _ A4.out).mono ?_); rintro e w' ⟨rfl, ⟨nd, rfl⟩⟩; refine ⟨_, rfl, ?_⟩) | ((with_reducible refine gate_callee (f := 101) rfl ?_); refine gL (some 17) Tryz.func101 #[.slice A0_5 l0_5.length c0_5] ?_; (with_reducible refine (header_Check.calls k _ _ l0_5 t3 _ ?side1 ?side2 A6.out).mono ?_); (case side1 => repeat (first | exact (Kd.C_below HR1_5.out bE) | (with_reducible refine Kd.C_alloc ?_ _) | (with_reducible refine Kd.C_drewN ?_ _) | (with_reducible refine Kd.C_drew ?_))); (case side2 => exact HC1_5.out); rintro e w4a1 ⟨rfl, hb⟩; refine ⟨_, rfl, ?_⟩; replace BK1a1 := kM BK1a1 hb; replace HB := bS bE hb; (try clear hb)))
    (try simp only [Act.put, List.setIfInBounds_toArray, List.set_cons_zero, List.set_cons_succ])
    go_cut [21] (fun v4s1 wc => ∃ (kq : Nat) (x21_7 : Bool), v4s1 = .bool x21_7 ∧ Aside0 (ask_fields.j0 kq x21_7 a0_0 a0_1 a0_2 a0_3 a0_4 l0_5 a0_6 a0_7 a0_8 a0_9 = some r) ∧ Aside0 (kq ≤ k) ∧ Aside0 (wc.heap[gb1a1]? = some (.cells #[.string a0_0, .string a0_1, .string a0_2, .int .i64 a0_3, .bool a0_4, (.slice A0_5 l0_5.length c0_5), .int .i64 a0_6, .int .u64 a0_7, .int .i64 a0_8, .int .i64 a0_9] 26 (0, 0))) ∧ Aside0 (Below w.heap.size w wc))
    case first =>
     have H := HC8.out
     clear HC8
     refine em_ (a0_6 < 1) (fun c9 => ?g5p) (fun c9 => ?g5n)
     case' g5p =>
      rw [if_pos c9] at H
      have c9b0 : decide (a0_6 < 1) = true := decide_eq_true c9
      clear c9
      (first | rw [c9b0] | (simp only [i64_w, i32_w]; rw [c9b0]) | skip)
      have H' := Aside0.mk H
      clear H
      obtain ⟨z10_0, z10_1, z10_2, z10_3, z10_4, z10_5, z10_6, z10_7, z10_8, z10_9, zf10_0, zf10_1, zf10_2, zf10_3, zf10_4, zf10_5, zf10_6, zf10_7, zf10_8, zf10_9⟩ := bk10_ BK1a1
      have M6_0 := trivial
     case' g5n =>
      rw [if_neg c9] at H
      have c9b0 : decide (a0_6 < 1) = false := decide_eq_false c9
      clear c9
      (first | rw [c9b0] | (simp only [i64_w, i32_w]; rw [c9b0]) | skip)
      have H' := Aside0.mk H
      clear H
      obtain ⟨z10_0, z10_1, z10_2, z10_3, z10_4, z10_5, z10_6, z10_7, z10_8, z10_9, zf10_0, zf10_1, zf10_2, zf10_3, zf10_4, zf10_5, zf10_6, zf10_7, zf10_8, zf10_9⟩ := bk10_ BK1a1
      have M6_1 := trivial
     all_goals
      go_wp2
      go_meet
      first
      | clear M6_0
        case rel => exact ⟨_, (true), rS, H', ⟨oE⟩, ⟨kC BK1a1⟩, ⟨bE⟩⟩
      | clear M6_1
        case rel => exact ⟨_, (decide (a0_6 > 6)), rS, H', ⟨oE⟩, ⟨kC BK1a1⟩, ⟨bE⟩⟩
    case rest =>
     clear HC8
     try clear c9
     try clear c3
     try clear c3b0
     try clear c3b1
     try clear c5
     try clear c7
     try clear c7b0
     try clear c7b1
     try clear z1a3_0
     try clear z1a3_1
     try clear z1a3_2
     try clear z1a3_3
     try clear z1a3_4
     try clear z1a3_5
     try clear z1a3_6
     try clear z1a3_7
     try clear z1a3_8
     try clear z1a3_9
     try clear z2a2_0
     try clear z2a2_1
     try clear z2a2_2
     try clear z2a2_3
     try clear z2a2_4
     try clear z2a2_5
     try clear z2a2_6
     try clear z2a2_7
     try clear z2a2_8
     try clear z2a2_9
     try clear zf1a3_0
     try clear zf1a3_1
     try clear zf1a3_2
     try clear zf1a3_3
     try clear zf1a3_4
     try clear zf1a3_5
     try clear zf1a3_6
     try clear zf1a3_7
     try clear zf1a3_8
     try clear zf1a3_9
     try clear zf2a2_0
     try clear zf2a2_1
     try clear zf2a2_2
     try clear zf2a2_3
     try clear zf2a2_4
     try clear zf2a2_5
     try clear zf2a2_6
     try clear zf2a2_7
     try clear zf2a2_8
     try clear zf2a2_9
     obtain ⟨kq, x21_7, rfl, HA, HJ7, BK1a1, HB⟩ := hcut
     cases kq with
     | zero => exact absurd HA.out (by simp [ask_fields.j0])
     | succ kj7 =>
      have H := HA.out
      clear HA
      simp only [ask_fields.j0] at H
      refine em_ (x21_7 = true) (fun c13 => ?g7p) (fun c13 => ?g7n)
      case' g7p =>
       subst c13
       replace H := ifT_ H
       obtain rfl := si_ H
      case' g7n =>
       replace c13 := Bool.eq_false_iff.mpr c13
       subst c13
       replace H := ifF_ H
       refine em_ (a0_7 > 600) (fun c14 => ?g8p) (fun c14 => ?g8n)
       case' g8p =>
        rw [if_pos c14] at H
        have c14b0 : decide (600 < a0_7) = true := decide_eq_true c14
        clear c14
        obtain rfl := si_ H
        obtain ⟨z15_0, z15_1, z15_2, z15_3, z15_4, z15_5, z15_6, z15_7, z15_8, z15_9, zf15_0, zf15_1, zf15_2, zf15_3, zf15_4, zf15_5, zf15_6, zf15_7, zf15_8, zf15_9⟩ := bk10_ BK1a1
       case' g8n =>
        rw [if_neg c14] at H
        have c14b0 : decide (600 < a0_7) = false := decide_eq_false c14
        clear c14
        refine em_ (a0_8 < 0) (fun c15 => ?g9p) (fun c15 => ?g9n)
        case' g9p =>
         rw [if_pos c15] at H
         have c15b0 : decide (a0_8 < 0) = true := decide_eq_true c15
         clear c15
         obtain rfl := si_ H
         obtain ⟨z16_0, z16_1, z16_2, z16_3, z16_4, z16_5, z16_6, z16_7, z16_8, z16_9, zf16_0, zf16_1, zf16_2, zf16_3, zf16_4, zf16_5, zf16_6, zf16_7, zf16_8, zf16_9⟩ := bk10_ BK1a1
        case' g9n =>
         rw [if_neg c15] at H
         have c15b0 : decide (a0_8 < 0) = false := decide_eq_false c15
         clear c15
         refine em_ (a0_9 < 0) (fun c16 => ?g10p) (fun c16 => ?g10n)
         case' g10p =>
          rw [if_pos c16] at H
          have c16b0 : decide (a0_9 < 0) = true := decide_eq_true c16
          clear c16
          obtain rfl := si_ H
          obtain ⟨z17_0, z17_1, z17_2, z17_3, z17_4, z17_5, z17_6, z17_7, z17_8, z17_9, zf17_0, zf17_1, zf17_2, zf17_3, zf17_4, zf17_5, zf17_6, zf17_7, zf17_8, zf17_9⟩ := bk10_ BK1a1
         case' g10n =>
          rw [if_neg c16] at H
          have c16b0 : decide (a0_9 < 0) = false := decide_eq_false c16
          clear c16
          obtain rfl := si_ H
          obtain ⟨z17_0, z17_1, z17_2, z17_3, z17_4, z17_5, z17_6, z17_7, z17_8, z17_9, zf17_0, zf17_1, zf17_2, zf17_3, zf17_4, zf17_5, zf17_6, zf17_7, zf17_8, zf17_9⟩ := bk10_ BK1a1
      all_goals
       go_wp2
       go_ret
       exact ⟨rE, bE⟩
  | clear M4_1
    go_wp2_with (first | ((with_reducible refine gate_dst (N := 1) rfl ?_); refine bxE (N := 1) (cs := #[.string a0_0, .string a0_1, .string a0_2, .int .i64 a0_3, .bool a0_4, .slice A0_5 l0_5.length c0_5, .int .i64 a0_6, .int .u64 a0_7, .int .i64 a0_8, .int .i64 a0_9]) (t := 26) fun gb1a1 hg w1a2 hbox hb => ?_; obtain ⟨HB', BK1a1, GW1a1⟩ := bx_ bE hg hbox hb; have GE1a1 := GW1a1; clear HB hb hbox hg; have HB := HB'; clear HB'; obtain ⟨z1a3_0, z1a3_1, z1a3_2, z1a3_3, z1a3_4, z1a3_5, z1a3_6, z1a3_7, z1a3_8, z1a3_9, zf1a3_0, zf1a3_1, zf1a3_2, zf1a3_3, zf1a3_4, zf1a3_5, zf1a3_6, zf1a3_7, zf1a3_8, zf1a3_9⟩ := bk10_ BK1a1) | ((with_reducible refine gate_callee (f := 99) rfl ?_); refine gL (some 7) Tryz.func99 #[.string a0_0] ?_; (with_reducible refine (method_Check.calls k a0_0 _ _ A2.out).mono ?_); rintro e w2a1 ⟨rfl, hb⟩; refine ⟨_, rfl, ?_⟩; replace BK1a1 := kM BK1a1 hb; replace HB := bS bE hb; (try clear hb); obtain ⟨z2a2_0, z2a2_1, z2a2_2, z2a2_3, z2a2_4, z2a2_5, z2a2_6, z2a2_7, z2a2_8, z2a2_9, zf2a2_0, zf2a2_1, zf2a2_2, zf2a2_3, zf2a2_4, zf2a2_5, zf2a2_6, zf2a2_7, zf2a2_8, zf2a2_9⟩ := bk10_ BK1a1) | ((with_reducible refine gate_callee (f := 100) rfl ?_); refine gL (some 13) Tryz.func100 #[.int .i64 a0_3] ?_; (with_reducible refine (ask_isMode.calls a0_3 _ _ A4.out).mono ?_); rintro e w' ⟨rfl, ⟨nd, rfl⟩⟩; refine ⟨_, rfl, ?_⟩) | ((with_reducible refine gate_callee (f := 101) rfl ?_); refine gL (some 17) Tryz.func101 #[.slice A0_5 l0_5.length c0_5] ?_; (with_reducible refine (header_Check.calls k _ _ l0_5 t3 _ ?side1 ?side2 A6.out).mono ?_); (case side1 => repeat (first | exact (Kd.C_below HR1_5.out bE) | (with_reducible refine Kd.C_alloc ?_ _) | (with_reducible refine Kd.C_drewN ?_ _) | (with_reducible refine Kd.C_drew ?_))); (case side2 => exact HC1_5.out); rintro e w4a1 ⟨rfl, hb⟩; refine ⟨_, rfl, ?_⟩; replace BK1a1 := kM BK1a1 hb; replace HB := bS bE hb; (try clear hb)))
    go_ret
    exact ⟨rE, bE⟩

/-! ### method_known: function 76 -/
def method_known.l0 : Nat → ByteArray → Int → Option (ByteArray)
 | 0, _, _ => none
 | k + 1, x0, x6 => if x6 < 6 then (if 0 ≤ x6 then ((octet_Fold.f x0 (rdOf ByteArray.empty ([(⟨#[68, 69, 76, 69, 84, 69]⟩ : ByteArray), (⟨#[71, 69, 84]⟩ : ByteArray), (⟨#[72, 69, 65, 68]⟩ : ByteArray), (⟨#[79, 80, 84, 73, 79, 78, 83]⟩ : ByteArray), (⟨#[80, 79, 83, 84]⟩ : ByteArray), (⟨#[80, 85, 84]⟩ : ByteArray)] : List ByteArray) x6)).bind fun t204 => (if t204 = true then (some (rdOf ByteArray.empty ([(⟨#[68, 69, 76, 69, 84, 69]⟩ : ByteArray), (⟨#[71, 69, 84]⟩ : ByteArray), (⟨#[72, 69, 65, 68]⟩ : ByteArray), (⟨#[79, 80, 84, 73, 79, 78, 83]⟩ : ByteArray), (⟨#[80, 79, 83, 84]⟩ : ByteArray), (⟨#[80, 85, 84]⟩ : ByteArray)] : List ByteArray) x6)) else (method_known.l0 k x0 (wrap64 (x6 + 1))))) else (none)) else (some (⟨#[]⟩ : ByteArray))
def method_known.f (k : Nat) (a0 : ByteArray) : Option (ByteArray) := method_known.l0 k a0 0
theorem method_known.mono_l : ∀ k, (∀ y0 y1, LeO (method_known.l0 k y0 y1) (method_known.l0 (k + 1) y0 y1))
 | 0 => fun _ _ r h => by simp [method_known.l0] at h
 | k + 1 => by
  have ih0 := method_known.mono_l k
  ·intros
   unfold method_known.l0
   exact moE

theorem method_known.mono : ∀ a0 k, LeO (method_known.f k a0) (method_known.f (k + 1) a0) := by
 intro a0 k
 have ih0 := method_known.mono_l k
 unfold method_known.f
 exact moE

set_option maxHeartbeats 8000000 in
set_option maxRecDepth 100000 in
theorem method_known.calls (k : Nat) (a0 : ByteArray) (r : ByteArray) (w : World) (h : method_known.f k a0 = some r) :
  Calls Tryz.prog 76 #[.string a0] w fun e w' => e = .returned (.string r) ∧ Below w.heap.size w w' := by
 have HB := Aside0.mk (Below.refl w.heap.size w)
 have H : (method_known.l0 k a0 0) = some r := h
 clear h
 have H' := Aside0.mk H
 clear H
 go_enter Tryz.func76, Tryz.ntmps76
 go_wp2
 go_loopg [6] k (fun kq v3s1 w' => ∃ (x6_1 : Int), v3s1 = .int .i64 x6_1 ∧ Aside0 (method_known.l0 kq a0 x6_1 = some r) ∧ Aside0 (kq ≤ k) ∧ Aside0 (Below w.heap.size w w'))
 case atStart => exact ⟨(0), rS, H', ⟨Nat.le_refl _⟩, ⟨bE⟩⟩
 case round =>
  clear H'
  obtain ⟨x6_1, rfl, HA, HK1, HB⟩ := hrel
  cases gk with
  | zero => exact absurd HA.out (by simp [method_known.l0])
  | succ k1 =>
   have H := HA.out
   clear HA
   simp only [method_known.l0] at H
   refine em_ (x6_1 < 6) (fun c1 => ?g1p) (fun c1 => ?g1n)
   case' g1p =>
    rw [if_pos c1] at H
    have c1b0 : decide (x6_1 < 6) = true := decide_eq_true c1
    clear c1
    replace H := iteN_ H; obtain ⟨c2, H⟩ := H
    have c2b0 : decide (0 ≤ x6_1) = true := decide_eq_true c2
    clear c2
    replace H := bd_ H; obtain ⟨t1, A3, H⟩ := H
    refine em_ (t1 = true) (fun c4 => ?g2p) (fun c4 => ?g2n)
    case' g2p =>
     subst c4
     replace H := ifT_ H
     obtain rfl := si_ H
     have hx5 := XA.arr_at (P := Tryz.prog) (t := 124) (e := 9) 6 ([(⟨#[68, 69, 76, 69, 84, 69]⟩ : ByteArray), (⟨#[71, 69, 84]⟩ : ByteArray), (⟨#[72, 69, 65, 68]⟩ : ByteArray), (⟨#[79, 80, 84, 73, 79, 78, 83]⟩ : ByteArray), (⟨#[80, 79, 83, 84]⟩ : ByteArray), (⟨#[80, 85, 84]⟩ : ByteArray)] : List ByteArray) Tryz.underlying124 Tryz.underlying9 (by kernel_rfl) rfl #[Value.string (⟨#[68, 69, 76, 69, 84, 69]⟩ : ByteArray), Value.string (⟨#[71, 69, 84]⟩ : ByteArray), Value.string (⟨#[72, 69, 65, 68]⟩ : ByteArray), Value.string (⟨#[79, 80, 84, 73, 79, 78, 83]⟩ : ByteArray), Value.string (⟨#[80, 79, 83, 84]⟩ : ByteArray), Value.string (⟨#[80, 85, 84]⟩ : ByteArray)] rfl (x6_1 : Int) (of_decide_eq_true mE) (of_decide_eq_true mE)
     have M3_0 := trivial
    case' g2n =>
     replace c4 := Bool.eq_false_iff.mpr c4
     subst c4
     replace H := ifF_ H
     have H' := Aside0.mk H
     clear H
     have hx5 := XA.arr_at (P := Tryz.prog) (t := 124) (e := 9) 6 ([(⟨#[68, 69, 76, 69, 84, 69]⟩ : ByteArray), (⟨#[71, 69, 84]⟩ : ByteArray), (⟨#[72, 69, 65, 68]⟩ : ByteArray), (⟨#[79, 80, 84, 73, 79, 78, 83]⟩ : ByteArray), (⟨#[80, 79, 83, 84]⟩ : ByteArray), (⟨#[80, 85, 84]⟩ : ByteArray)] : List ByteArray) Tryz.underlying124 Tryz.underlying9 (by kernel_rfl) rfl #[Value.string (⟨#[68, 69, 76, 69, 84, 69]⟩ : ByteArray), Value.string (⟨#[71, 69, 84]⟩ : ByteArray), Value.string (⟨#[72, 69, 65, 68]⟩ : ByteArray), Value.string (⟨#[79, 80, 84, 73, 79, 78, 83]⟩ : ByteArray), Value.string (⟨#[80, 79, 83, 84]⟩ : ByteArray), Value.string (⟨#[80, 85, 84]⟩ : ByteArray)] rfl (x6_1 : Int) (of_decide_eq_true mE) (of_decide_eq_true mE)
     have M3_1 := trivial
   case' g1n =>
    rw [if_neg c1] at H
    have c1b0 : decide (x6_1 < 6) = false := decide_eq_false c1
    clear c1
    obtain rfl := si_ H
    have M3_0 := trivial
   all_goals
    go_wp2_with (first | ((with_reducible refine gate_callee (f := 70) rfl ?_); refine gL (some 11) Tryz.func70 #[.string a0, .string (rdOf ByteArray.empty ([(⟨#[68, 69, 76, 69, 84, 69]⟩ : ByteArray), (⟨#[71, 69, 84]⟩ : ByteArray), (⟨#[72, 69, 65, 68]⟩ : ByteArray), (⟨#[79, 80, 84, 73, 79, 78, 83]⟩ : ByteArray), (⟨#[80, 79, 83, 84]⟩ : ByteArray), (⟨#[80, 85, 84]⟩ : ByteArray)] : List ByteArray) x6_1)] ?_; (with_reducible refine (octet_Fold.calls a0 (rdOf ByteArray.empty ([(⟨#[68, 69, 76, 69, 84, 69]⟩ : ByteArray), (⟨#[71, 69, 84]⟩ : ByteArray), (⟨#[72, 69, 65, 68]⟩ : ByteArray), (⟨#[79, 80, 84, 73, 79, 78, 83]⟩ : ByteArray), (⟨#[80, 79, 83, 84]⟩ : ByteArray), (⟨#[80, 85, 84]⟩ : ByteArray)] : List ByteArray) x6_1) true _ A3.out).mono ?_); rintro e w1a1 ⟨rfl, hb⟩; refine ⟨_, rfl, ?_⟩; replace HB := bS bE hb; (try clear hb)) | ((with_reducible refine gate_callee (f := 70) rfl ?_); refine gL (some 11) Tryz.func70 #[.string a0, .string (rdOf ByteArray.empty ([(⟨#[68, 69, 76, 69, 84, 69]⟩ : ByteArray), (⟨#[71, 69, 84]⟩ : ByteArray), (⟨#[72, 69, 65, 68]⟩ : ByteArray), (⟨#[79, 80, 84, 73, 79, 78, 83]⟩ : ByteArray), (⟨#[80, 79, 83, 84]⟩ : ByteArray), (⟨#[80, 85, 84]⟩ : ByteArray)] : List ByteArray) x6_1)] ?_; (with_reducible refine (octet_Fold.calls a0 (rdOf ByteArray.empty ([(⟨#[68, 69, 76, 69, 84, 69]⟩ : ByteArray), (⟨#[71, 69, 84]⟩ : ByteArray), (⟨#[72, 69, 65, 68]⟩ : ByteArray), (⟨#[79, 80, 84, 73, 79, 78, 83]⟩ : ByteArray), (⟨#[80, 79, 83, 84]⟩ : ByteArray), (⟨#[80, 85, 84]⟩ : ByteArray)] : List ByteArray) x6_1) false _ A3.out).mono ?_); rintro e w2a1 ⟨rfl, hb⟩; refine ⟨_, rfl, ?_⟩; replace HB := bS bE hb; (try clear hb)))
    first
    | clear M3_0
      go_ret
      exact ⟨rE, bE⟩
    | clear M3_1
      go_roundg k1
      case measure => have := HK1.out; omega
      case rel => exact ⟨(wrap64 (x6_1 + 1)), rS, H', ⟨by have := HK1.out; omega⟩, ⟨bE⟩⟩

/-! ### method_Safe: function 38 -/
def method_Safe.f (k : Nat) (a0 : ByteArray) : Option (Bool) := (method_known.f k a0).bind fun t205 => (if t205.toList = ([71, 69, 84] : List UInt8) then (some true) else (if t205.toList = ([72, 69, 65, 68] : List UInt8) then (some true) else (if t205.toList = ([80, 79, 83, 84] : List UInt8) then (some true) else (some false))))
theorem method_Safe.mono : ∀ a0 k, LeO (method_Safe.f k a0) (method_Safe.f (k + 1) a0) := by
 intro a0 k
 have hm0 := @method_known.mono; unfold method_Safe.f
 exact moE

set_option maxHeartbeats 8000000 in
set_option maxRecDepth 100000 in
theorem method_Safe.calls (k : Nat) (a0 : ByteArray) (r : Bool) (w : World) (h : method_Safe.f k a0 = some r) :
  Calls Tryz.prog 38 #[.string a0] w fun e w' => e = .returned (.bool r) ∧ Below w.heap.size w w' := by
 have HB := Aside0.mk (Below.refl w.heap.size w)
 have H : ((method_known.f k a0).bind fun t1 => (if t1.toList = ([71, 69, 84] : List UInt8) then (some true) else (if t1.toList = ([72, 69, 65, 68] : List UInt8) then (some true) else (if t1.toList = ([80, 79, 83, 84] : List UInt8) then (some true) else (some false))))) = some r := h
 clear h
 replace H := bd_ H; obtain ⟨t1, A1, H⟩ := H
 refine em_ (t1.toList = ([71, 69, 84] : List UInt8)) (fun c2 => ?g1p) (fun c2 => ?g1n)
 case' g1p =>
  rw [if_pos c2] at H
  have c2b0 : (t1.toList == ([71, 69, 84] : List UInt8)) = true := beq_iff_eq.mpr c2
  have c2b1 : (t1.toList != ([71, 69, 84] : List UInt8)) = false := bne_eq_false_iff_eq.mpr c2
  clear c2
  obtain rfl := si_ H
 case' g1n =>
  rw [if_neg c2] at H
  have c2b0 : (t1.toList == ([71, 69, 84] : List UInt8)) = false := beq_eq_false_iff_ne.mpr c2
  have c2b1 : (t1.toList != ([71, 69, 84] : List UInt8)) = true := bne_iff_ne.mpr c2
  refine em_ (t1.toList = ([72, 69, 65, 68] : List UInt8)) (fun c3 => ?g2p) (fun c3 => ?g2n)
  case' g2p =>
   rw [if_pos c3] at H
   have c3b0 : (t1.toList == ([72, 69, 65, 68] : List UInt8)) = true := beq_iff_eq.mpr c3
   have c3b1 : (t1.toList != ([72, 69, 65, 68] : List UInt8)) = false := bne_eq_false_iff_eq.mpr c3
   clear c3
   obtain rfl := si_ H
  case' g2n =>
   rw [if_neg c3] at H
   have c3b0 : (t1.toList == ([72, 69, 65, 68] : List UInt8)) = false := beq_eq_false_iff_ne.mpr c3
   have c3b1 : (t1.toList != ([72, 69, 65, 68] : List UInt8)) = true := bne_iff_ne.mpr c3
   refine em_ (t1.toList = ([80, 79, 83, 84] : List UInt8)) (fun c4 => ?g3p) (fun c4 => ?g3n)
   case' g3p =>
    rw [if_pos c4] at H
    have c4b0 : (t1.toList == ([80, 79, 83, 84] : List UInt8)) = true := beq_iff_eq.mpr c4
    have c4b1 : (t1.toList != ([80, 79, 83, 84] : List UInt8)) = false := bne_eq_false_iff_eq.mpr c4
    clear c4
    obtain rfl := si_ H
   case' g3n =>
    rw [if_neg c4] at H
    have c4b0 : (t1.toList == ([80, 79, 83, 84] : List UInt8)) = false := beq_eq_false_iff_ne.mpr c4
    have c4b1 : (t1.toList != ([80, 79, 83, 84] : List UInt8)) = true := bne_iff_ne.mpr c4
    obtain rfl := si_ H
 all_goals
  go_enter Tryz.func38, Tryz.ntmps38
  go_wp2_with (first | ((with_reducible refine gate_callee (f := 76) rfl ?_); refine gL (some 4) Tryz.func76 #[.string a0] ?_; (with_reducible refine (method_known.calls k a0 _ _ A1.out).mono ?_); rintro e w1a1 ⟨rfl, hb⟩; refine ⟨_, rfl, ?_⟩; replace HB := bS bE hb; (try clear hb)))
  go_ret
  exact ⟨rE, bE⟩

/-! ### safe_Byte: function 160 -/
def safe_Byte.f (a0 : Int) : Option (Bool) := if a0 = 9 then (some true) else (if a0 ≥ 32 then ((strings_IndexByte.f (⟨#[34, 40, 41, 58, 60, 62, 63, 64, 91, 92, 93, 123, 125, 127]⟩ : ByteArray) a0).bind fun t206 => (some (decide (t206 < 0)))) else (some false))
set_option maxHeartbeats 8000000 in
set_option maxRecDepth 100000 in
theorem safe_Byte.calls (a0 : Int) (r : Bool) (w : World) (h : safe_Byte.f a0 = some r) :
  Calls Tryz.prog 160 #[.int .u8 a0] w fun e w' => e = .returned (.bool r) ∧ Drawn0 w w' := by
 have H : (if a0 = 9 then (some true) else (if a0 ≥ 32 then ((strings_IndexByte.f (⟨#[34, 40, 41, 58, 60, 62, 63, 64, 91, 92, 93, 123, 125, 127]⟩ : ByteArray) a0).bind fun t1 => (some (decide (t1 < 0)))) else (some false))) = some r := h
 clear h
 refine em_ (a0 = 9) (fun c1 => ?g1p) (fun c1 => ?g1n)
 case' g1p =>
  rw [if_pos c1] at H
  have c1b0 : (a0 == 9) = true := beq_iff_eq.mpr c1
  have c1b1 : (a0 != 9) = false := bne_eq_false_iff_eq.mpr c1
  clear c1
  obtain rfl := si_ H
 case' g1n =>
  rw [if_neg c1] at H
  have c1b0 : (a0 == 9) = false := beq_eq_false_iff_ne.mpr c1
  have c1b1 : (a0 != 9) = true := bne_iff_ne.mpr c1
  refine em_ (a0 ≥ 32) (fun c2 => ?g2p) (fun c2 => ?g2n)
  case' g2p =>
   rw [if_pos c2] at H
   have c2b0 : decide (32 ≤ a0) = true := decide_eq_true c2
   clear c2
   replace H := bd_ H; obtain ⟨t1, A3, H⟩ := H
   obtain rfl := si_ H
  case' g2n =>
   rw [if_neg c2] at H
   have c2b0 : decide (32 ≤ a0) = false := decide_eq_false c2
   clear c2
   obtain rfl := si_ H
 all_goals
  go_enter Tryz.func160, Tryz.ntmps160
  go_wp2_with (first | (go_at_call 141; (with_reducible refine (strings_IndexByte.calls (⟨#[34, 40, 41, 58, 60, 62, 63, 64, 91, 92, 93, 123, 125, 127]⟩ : ByteArray) a0 _ _ A3.out).mono ?_); rintro e w' ⟨rfl, ⟨nd, rfl⟩⟩))
  go_ret
  exact ⟨by first | rfl | (simp; done) | (simp [*]; done), by repeat (first | exact Drawn0.refl _ | apply Drawn0.step)⟩

/-! ### safe_word: function 161 -/
def safe_word.f (a0 : Int) : Option (Bool) := if (Go.bits .or .u8 a0 32) ≥ 97 then (if (Go.bits .or .u8 a0 32) ≤ 122 then (some true) else (if a0 ≥ 48 then (if a0 ≤ 57 then (some true) else ((strings_IndexByte.f (⟨#[32, 42, 44, 45, 46, 59, 61]⟩ : ByteArray) a0).bind fun t207 => (some (decide (t207 ≥ 0))))) else ((strings_IndexByte.f (⟨#[32, 42, 44, 45, 46, 59, 61]⟩ : ByteArray) a0).bind fun t208 => (some (decide (t208 ≥ 0)))))) else (if a0 ≥ 48 then (if a0 ≤ 57 then (some true) else ((strings_IndexByte.f (⟨#[32, 42, 44, 45, 46, 59, 61]⟩ : ByteArray) a0).bind fun t209 => (some (decide (t209 ≥ 0))))) else ((strings_IndexByte.f (⟨#[32, 42, 44, 45, 46, 59, 61]⟩ : ByteArray) a0).bind fun t210 => (some (decide (t210 ≥ 0)))))
set_option maxHeartbeats 8000000 in
set_option maxRecDepth 100000 in
theorem safe_word.calls (a0 : Int) (r : Bool) (w : World) (h : safe_word.f a0 = some r) :
  Calls Tryz.prog 161 #[.int .u8 a0] w fun e w' => e = .returned (.bool r) ∧ Drawn0 w w' := by
 have H : (if (Go.bits .or .u8 a0 32) ≥ 97 then (if (Go.bits .or .u8 a0 32) ≤ 122 then (some true) else (if a0 ≥ 48 then (if a0 ≤ 57 then (some true) else ((strings_IndexByte.f (⟨#[32, 42, 44, 45, 46, 59, 61]⟩ : ByteArray) a0).bind fun t1 => (some (decide (t1 ≥ 0))))) else ((strings_IndexByte.f (⟨#[32, 42, 44, 45, 46, 59, 61]⟩ : ByteArray) a0).bind fun t2 => (some (decide (t2 ≥ 0)))))) else (if a0 ≥ 48 then (if a0 ≤ 57 then (some true) else ((strings_IndexByte.f (⟨#[32, 42, 44, 45, 46, 59, 61]⟩ : ByteArray) a0).bind fun t3 => (some (decide (t3 ≥ 0))))) else ((strings_IndexByte.f (⟨#[32, 42, 44, 45, 46, 59, 61]⟩ : ByteArray) a0).bind fun t4 => (some (decide (t4 ≥ 0)))))) = some r := h
 clear h
 refine em_ ((Go.bits .or .u8 a0 32) ≥ 97) (fun c1 => ?g1p) (fun c1 => ?g1n)
 case' g1p =>
  rw [if_pos c1] at H
  have c1b0 : decide (97 ≤ (Go.bits .or .u8 a0 32)) = true := decide_eq_true c1
  clear c1
  refine em_ ((Go.bits .or .u8 a0 32) ≤ 122) (fun c2 => ?g2p) (fun c2 => ?g2n)
  case' g2p =>
   rw [if_pos c2] at H
   have c2b0 : decide ((Go.bits .or .u8 a0 32) ≤ 122) = true := decide_eq_true c2
   clear c2
   obtain rfl := si_ H
  case' g2n =>
   rw [if_neg c2] at H
   have c2b0 : decide ((Go.bits .or .u8 a0 32) ≤ 122) = false := decide_eq_false c2
   clear c2
   refine em_ (a0 ≥ 48) (fun c3 => ?g3p) (fun c3 => ?g3n)
   case' g3p =>
    rw [if_pos c3] at H
    have c3b0 : decide (48 ≤ a0) = true := decide_eq_true c3
    clear c3
    refine em_ (a0 ≤ 57) (fun c4 => ?g4p) (fun c4 => ?g4n)
    case' g4p =>
     rw [if_pos c4] at H
     have c4b0 : decide (a0 ≤ 57) = true := decide_eq_true c4
     clear c4
     obtain rfl := si_ H
    case' g4n =>
     rw [if_neg c4] at H
     have c4b0 : decide (a0 ≤ 57) = false := decide_eq_false c4
     clear c4
     replace H := bd_ H; obtain ⟨t1, A5, H⟩ := H
     obtain rfl := si_ H
   case' g3n =>
    rw [if_neg c3] at H
    have c3b0 : decide (48 ≤ a0) = false := decide_eq_false c3
    clear c3
    replace H := bd_ H; obtain ⟨t2, A4, H⟩ := H
    obtain rfl := si_ H
 case' g1n =>
  rw [if_neg c1] at H
  have c1b0 : decide (97 ≤ (Go.bits .or .u8 a0 32)) = false := decide_eq_false c1
  clear c1
  refine em_ (a0 ≥ 48) (fun c2 => ?g5p) (fun c2 => ?g5n)
  case' g5p =>
   rw [if_pos c2] at H
   have c2b0 : decide (48 ≤ a0) = true := decide_eq_true c2
   clear c2
   refine em_ (a0 ≤ 57) (fun c3 => ?g6p) (fun c3 => ?g6n)
   case' g6p =>
    rw [if_pos c3] at H
    have c3b0 : decide (a0 ≤ 57) = true := decide_eq_true c3
    clear c3
    obtain rfl := si_ H
   case' g6n =>
    rw [if_neg c3] at H
    have c3b0 : decide (a0 ≤ 57) = false := decide_eq_false c3
    clear c3
    replace H := bd_ H; obtain ⟨t3, A4, H⟩ := H
    obtain rfl := si_ H
  case' g5n =>
   rw [if_neg c2] at H
   have c2b0 : decide (48 ≤ a0) = false := decide_eq_false c2
   clear c2
   replace H := bd_ H; obtain ⟨t4, A3, H⟩ := H
   obtain rfl := si_ H
 all_goals
  go_enter Tryz.func161, Tryz.ntmps161
  go_wp2_with (first | (go_at_call 141; (with_reducible refine (strings_IndexByte.calls (⟨#[32, 42, 44, 45, 46, 59, 61]⟩ : ByteArray) a0 _ _ A5.out).mono ?_); rintro e w' ⟨rfl, ⟨nd, rfl⟩⟩) | (go_at_call 141; (with_reducible refine (strings_IndexByte.calls (⟨#[32, 42, 44, 45, 46, 59, 61]⟩ : ByteArray) a0 _ _ A4.out).mono ?_); rintro e w' ⟨rfl, ⟨nd, rfl⟩⟩) | (go_at_call 141; (with_reducible refine (strings_IndexByte.calls (⟨#[32, 42, 44, 45, 46, 59, 61]⟩ : ByteArray) a0 _ _ A3.out).mono ?_); rintro e w' ⟨rfl, ⟨nd, rfl⟩⟩))
  go_ret
  exact ⟨by first | rfl | (simp; done) | (simp [*]; done), by repeat (first | exact Drawn0.refl _ | apply Drawn0.step)⟩

end Go.Proofs.YtfmajangcbgooaaGreatDoor.Pr
