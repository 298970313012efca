import Derived.Test.YtfmajangcbgooaaGreatDoorPr0
import Derived.Test.YtfmajangcbgooaaGreatDoorK0
import Derived.Test.YtfmajangcbgooaaGreatDoorPr13
import Derived.Test.YtfmajangcbgooaaGreatDoorG5
import Derived.Test.YtfmajangcbgooaaGreatDoorPr5
import Derived.Test.YtfmajangcbgooaaGreatDoorPr10
import Derived.Test.YtfmajangcbgooaaGreatDoorPr27
namespace Go.Proofs.YtfmajangcbgooaaGreatDoor.Pr
open Go.RowKit Go.Proofs.YtfmajangcbgooaaGreatDoorW.PrintWords Go.Proofs.YtfmajangcbgooaaGreatDoorW.PrintLast Go.Proofs.YtfmajangcbgooaaGreatDoorW.PrintMore
attribute [local go_sem] max2_int min2_int max_two min_two max_three min_three max_four min_four
set_option linter.unusedVariables false
set_option maxHeartbeats 64000000
set_option maxRecDepth 100000
set_option linter.unusedSimpArgs false
def lockkeeperlaw8_awake.f (k : Nat)  : Option (Bool) := (ask_Check.f k (⟨#[80, 85, 84]⟩ : ByteArray) (⟨#[104, 116, 116, 112, 58, 47, 47, 98, 47]⟩ : ByteArray) (⟨#[104, 116, 116, 112, 58, 47, 47, 97]⟩ : ByteArray) 3 false ([] : List (S28)) 1 0 0 0).bind fun a => (if a = 0 then ((ask_Needs.f k (⟨#[80, 85, 84]⟩ : ByteArray) (⟨#[104, 116, 116, 112, 58, 47, 47, 98, 47]⟩ : ByteArray) (⟨#[104, 116, 116, 112, 58, 47, 47, 97]⟩ : ByteArray) 3 false ([] : List (S28)) 1 0 0 0).bind fun b => (if b = true then ((ask_Cross.f k (⟨#[80, 85, 84]⟩ : ByteArray) (⟨#[104, 116, 116, 112, 58, 47, 47, 98, 47]⟩ : ByteArray) (⟨#[104, 116, 116, 112, 58, 47, 47, 97]⟩ : ByteArray) 3 false ([] : List (S28)) 1 0 0 0).bind fun c => (if c = true then ((ask_Key.f k (⟨#[80, 85, 84]⟩ : ByteArray) (⟨#[104, 116, 116, 112, 58, 47, 47, 98, 47]⟩ : ByteArray) (⟨#[104, 116, 116, 112, 58, 47, 47, 97]⟩ : ByteArray) 3 false ([] : List (S28)) 1 0 0 0).bind fun d => (if d.toList = ([104, 116, 116, 112, 58, 47, 47, 98, 58, 56, 48] : List UInt8) then ((ask_Check.f k (⟨#[80, 85, 84]⟩ : ByteArray) (⟨#[104, 116, 116, 112, 58, 47, 47, 98, 47]⟩ : ByteArray) (⟨#[104, 116, 116, 112, 58, 47, 47, 97]⟩ : ByteArray) 2 false ([] : List (S28)) 1 0 0 0).bind fun e => (some (e == 7))) else (some false))) else (some false))) else (some false))) else (some false))
theorem lockkeeperlaw8_awake.mono : ∀ k, LeO (lockkeeperlaw8_awake.f k ) (lockkeeperlaw8_awake.f (k + 1) ) := by
 intro  k
 have a := @ask_Check.mono; have b := @ask_Cross.mono; have c := @ask_Key.mono; have d := @ask_Needs.mono; unfold lockkeeperlaw8_awake.f
 exact moE
theorem lockkeeperlaw8_awake.calls (k : Nat) (r : Bool) (w : World) (hM_ : Aside0 (LaidW w)) (h : lockkeeperlaw8_awake.f k  = some r) :
  Calls Tryz.prog 15 #[] w fun e w' => e = .returned (.bool r) ∧ Below w.heap.size w w' := by
 have hu26 := Tryz.underlying26; have HB := Aside0.mk (Below.refl w.heap.size w); have H := h; clear h; unfold lockkeeperlaw8_awake.f at H; replace H := bd_ H; obtain ⟨t1, A1, H⟩ := H; revert H; refine iteEF_ (fun m n H => ?g1p) (fun c2 m n H => ?g1n)
 case' g1p =>
  replace H := bd_ H; obtain ⟨t2, A3, H⟩ := H; revert H; refine iteB_ (fun c4 H => ?g2p) (fun c4 H => ?g2n)
  case' g2p =>
   subst c4; replace H := bd_ H; obtain ⟨t3, A5, H⟩ := H; revert H; refine iteB_ (fun c6 H => ?g3p) (fun c6 H => ?g3n)
   case' g3p =>
    subst c6; replace H := bd_ H; obtain ⟨t4, A7, H⟩ := H; revert H; refine iteEF_ (fun p q H => ?g4p) (fun c8 p q H => ?g4n)
    case' g4p =>
     replace H := bd_ H; obtain ⟨t5, A9, H⟩ := H; obtain rfl := si_ H
    case' g4n =>
     obtain rfl := si_ H
   case' g3n =>
    subst c6; obtain rfl := si_ H
  case' g2n =>
   subst c4; obtain rfl := si_ H
 case' g1n =>
  obtain rfl := si_ H
 all_goals
  go_enter Tryz.func15, Tryz.ntmps15; go_wp2_with (first | ((with_reducible refine gate_dst (N := 1) rfl ?_); refine bxE (N := 1) (cs := #[.string ⟨#[]⟩, .string ⟨#[]⟩, .string ⟨#[]⟩, .int .i64 0, .bool false, .slice none 0 0, .int .i64 0, .int .u64 0, .int .i64 0, .int .i64 0]) (t := 26) fun c hg w1a2 hbox hb => ?_; obtain ⟨HB', a, l⟩ := bx_ bE hg hbox hb; have GE1a1 := l; clear HB hb hbox hg; have HB := HB'; clear HB'; obtain ⟨aP, aQ, aR, aS, aT, aU, aV, aW, aX, aY, s, u, v, x, y, z, A, B, D, E⟩ := bk10_ a) | ((with_reducible refine gate_dst (N := 2) rfl ?_); refine bxE (N := 2) (cs := #[.string ⟨#[]⟩, .string ⟨#[]⟩, .string ⟨#[]⟩, .int .i64 0, .bool false, .slice none 0 0, .int .i64 0, .int .u64 0, .int .i64 0, .int .i64 0]) (t := 26) fun d hg w2a2 hbox hb => ?_; have n0_ := Aside0.mk (blk_below (g := c) (o := .cells #[.string ⟨#[80, 85, 84]⟩, .string ⟨#[104, 116, 116, 112, 58, 47, 47, 98, 47]⟩, .string ⟨#[104, 116, 116, 112, 58, 47, 47, 97]⟩, .int .i64 3, .bool false, .slice none 0 0, .int .i64 1, .int .u64 0, .int .i64 0, .int .i64 0] 26 (0, 0)) (kT) hb); have n1_ := bS bE hb; have n2_ := Aside0.mk (hbox); have n3_ := sE (w := w) hg; have n4_ := sE (w := w) hg; have n5_ := Aside0.mk ((by rw [hg]; exact Nat.ne_of_lt (blk_lt (g := c) (o := .cells #[.string ⟨#[80, 85, 84]⟩, .string ⟨#[104, 116, 116, 112, 58, 47, 47, 98, 47]⟩, .string ⟨#[104, 116, 116, 112, 58, 47, 47, 97]⟩, .int .i64 3, .bool false, .slice none 0 0, .int .i64 1, .int .u64 0, .int .i64 0, .int .i64 0] 26 (0, 0)) (kT)) : c ≠ d)); have n6_ := Aside0.mk ((by rw [hg]; exact Nat.ne_of_gt (blk_lt (g := c) (o := .cells #[.string ⟨#[80, 85, 84]⟩, .string ⟨#[104, 116, 116, 112, 58, 47, 47, 98, 47]⟩, .string ⟨#[104, 116, 116, 112, 58, 47, 47, 97]⟩, .int .i64 3, .bool false, .slice none 0 0, .int .i64 1, .int .u64 0, .int .i64 0, .int .i64 0] 26 (0, 0)) (kT)) : d ≠ c)); clear a; clear HB; have a := n0_; have HB := n1_; have b := n2_; have GW2a1 := n3_; have GE2a1 := n4_; have i := n5_; have j := n6_; clear n0_ n1_ n2_ n3_ n4_ n5_ n6_; clear hb hbox hg; have aZ := j.out; have a_ := i.out; obtain ⟨b0, b1, b2, b3, b4, b5, b6, b7, b8, b9, G, I, J, K, L, M, O, U, W, X⟩ := bk10_ b; obtain ⟨ba, bb, bc, be, bf, bg, bh, bi, bj, bk, Y, Z, a0, a1, a2, a3, a4, a5, a6, a7⟩ := bk10_ a) | ((with_reducible refine gate_callee (f := 13) rfl ?_); refine gL (some 7) Tryz.func13 #[.agg #[.string ⟨#[80, 85, 84]⟩, .string ⟨#[104, 116, 116, 112, 58, 47, 47, 98, 47]⟩, .string ⟨#[104, 116, 116, 112, 58, 47, 47, 97]⟩, .int .i64 3, .bool false, .slice none 0 0, .int .i64 1, .int .u64 0, .int .i64 0, .int .i64 0]] ?_; (refine (ask_Check.calls k (⟨#[80, 85, 84]⟩ : ByteArray) (⟨#[104, 116, 116, 112, 58, 47, 47, 98, 47]⟩ : ByteArray) (⟨#[104, 116, 116, 112, 58, 47, 47, 97]⟩ : ByteArray) 3 false _ _ ([] : List (S28)) 1 0 0 0 t1 _ ?side1 ?side2 ?side3 A1.out).mono ?_); (case side1 => exact Kd.C_nil _ _); (case side2 => exact Nat.le_refl _); (case side3 => exact ⟨lE⟩); rintro e w3a1 ⟨rfl, hb⟩; refine ⟨_, rfl, ?_⟩; have n0_ := kF a hb; have n1_ := Aside0.mk (blk_below (g := d) (o := .cells #[.string ⟨#[80, 85, 84]⟩, .string ⟨#[104, 116, 116, 112, 58, 47, 47, 98, 47]⟩, .string ⟨#[104, 116, 116, 112, 58, 47, 47, 97]⟩, .int .i64 2, .bool false, .slice none 0 0, .int .i64 1, .int .u64 0, .int .i64 0, .int .i64 0] 26 (0, 0)) (kT) hb); have n2_ := bS bE hb; clear a; clear b; clear HB; have a := n0_; have b := n1_; have HB := n2_; clear n0_ n1_ n2_; (try clear hb); (try clear hb2); (try clear hk); (try clear hi); obtain ⟨bl, bm, bn, bo, bp, bq, br, bs, bu, bv, a8, a9, aa, ab, ac, ad, ae, af, ag, ah⟩ := bk10_ a) | (go_at_call 14; (refine (ask_Needs.calls k (⟨#[80, 85, 84]⟩ : ByteArray) (⟨#[104, 116, 116, 112, 58, 47, 47, 98, 47]⟩ : ByteArray) (⟨#[104, 116, 116, 112, 58, 47, 47, 97]⟩ : ByteArray) 3 false _ _ ([] : List (S28)) 1 0 0 0 true _ ?side1 ?side2 ?side3 A3.out).mono ?_); (case side1 => exact Kd.C_nil _ _); (case side2 => exact Nat.le_refl _); (case side3 => exact ⟨lE⟩); rintro e w4a1 ⟨rfl, hb⟩; replace a := kM a hb; replace b := kM b hb; replace HB := bS bE hb; (try clear hb); obtain ⟨bw, bx, bB, bC, bF, bG, bH, bI, bJ, bK, ai, aj, ak, al, am, an, ao, ap, aq, ar⟩ := bk10_ a) | (go_at_call 16; (refine (ask_Cross.calls k (⟨#[80, 85, 84]⟩ : ByteArray) (⟨#[104, 116, 116, 112, 58, 47, 47, 98, 47]⟩ : ByteArray) (⟨#[104, 116, 116, 112, 58, 47, 47, 97]⟩ : ByteArray) 3 false _ _ ([] : List (S28)) 1 0 0 0 true _ ?side1 ?side2 ?side3 A5.out).mono ?_); (case side1 => exact Kd.C_nil _ _); (case side2 => exact Nat.le_refl _); (case side3 => exact ⟨lE⟩); rintro e w5a1 ⟨rfl, hb⟩; replace a := kM a hb; replace b := kM b hb; replace HB := bS bE hb; (try clear hb); obtain ⟨bL, bM, bO, bP, bQ, bR, bT, bU, bV, bX, au, av, aw, ax, ay, az, aA, aB, aC, aD⟩ := bk10_ a) | (go_at_call 27; (refine (ask_Key.calls k (⟨#[80, 85, 84]⟩ : ByteArray) (⟨#[104, 116, 116, 112, 58, 47, 47, 98, 47]⟩ : ByteArray) (⟨#[104, 116, 116, 112, 58, 47, 47, 97]⟩ : ByteArray) 3 false _ _ ([] : List (S28)) 1 0 0 0 t4 _ ?side1 ?side2 ?side3 A7.out).mono ?_); (case side1 => exact Kd.C_nil _ _); (case side2 => exact Nat.le_refl _); (case side3 => exact ⟨lE⟩); rintro e w6a1 ⟨rfl, hb⟩; replace a := kM a hb; replace b := kM b hb; replace HB := bS bE hb; (try clear hb); obtain ⟨bY, bZ, b_, c0, c1, c3, c5, c7, c9, ca, aE, aF, aG, aH, aI, aJ, aK, aL, aN, aO⟩ := bk10_ b) | (go_at_call 13; (refine (ask_Check.calls k (⟨#[80, 85, 84]⟩ : ByteArray) (⟨#[104, 116, 116, 112, 58, 47, 47, 98, 47]⟩ : ByteArray) (⟨#[104, 116, 116, 112, 58, 47, 47, 97]⟩ : ByteArray) 2 false _ _ ([] : List (S28)) 1 0 0 0 t5 _ ?side1 ?side2 ?side3 A9.out).mono ?_); (case side1 => exact Kd.C_nil _ _); (case side2 => exact Nat.le_refl _); (case side3 => exact ⟨lE⟩); rintro e w7a1 ⟨rfl, hb⟩; replace a := kM a hb; replace b := kM b hb; replace HB := bS bE hb; (try clear hb)) | (go_at_call 16; (refine (ask_Cross.calls k (⟨#[80, 85, 84]⟩ : ByteArray) (⟨#[104, 116, 116, 112, 58, 47, 47, 98, 47]⟩ : ByteArray) (⟨#[104, 116, 116, 112, 58, 47, 47, 97]⟩ : ByteArray) 3 false _ _ ([] : List (S28)) 1 0 0 0 false _ ?side1 ?side2 ?side3 A5.out).mono ?_); (case side1 => exact Kd.C_nil _ _); (case side2 => exact Nat.le_refl _); (case side3 => exact ⟨lE⟩); rintro e w8a1 ⟨rfl, hb⟩; replace a := kM a hb; replace b := kM b hb; replace HB := bS bE hb; (try clear hb)) | (go_at_call 14; (refine (ask_Needs.calls k (⟨#[80, 85, 84]⟩ : ByteArray) (⟨#[104, 116, 116, 112, 58, 47, 47, 98, 47]⟩ : ByteArray) (⟨#[104, 116, 116, 112, 58, 47, 47, 97]⟩ : ByteArray) 3 false _ _ ([] : List (S28)) 1 0 0 0 false _ ?side1 ?side2 ?side3 A3.out).mono ?_); (case side1 => exact Kd.C_nil _ _); (case side2 => exact Nat.le_refl _); (case side3 => exact ⟨lE⟩); rintro e w9a1 ⟨rfl, hb⟩; replace a := kM a hb; replace b := kM b hb; replace HB := bS bE hb; (try clear hb))); go_ret; exact ⟨rE, bE⟩
def lockkeeperlaw0_GreatHeaders.l0 : Nat → List (S28) → Int → Int → Option (Bool)
 | 0, _, _, _ => none
 | k + 1, b, c, a => if a < (b.length : Int) then (if 0 ≤ a then (if (((rd_T28 b a).f0).size : Int) > 100 then (some true) else (if (((rd_T28 b a).f1).size : Int) > 5000 then (some true) else (lockkeeperlaw0_GreatHeaders.l0 k b (wrap64 (c + (((rd_T28 b a).f1).size : Int))) (wrap64 (a + 1))))) else (none)) else (some (decide (c > 12000)))
def lockkeeperlaw0_GreatHeaders.f (k : Nat) (l0 : List (S28)) : Option (Bool) := if (l0.length : Int) > 40 then (some true) else (lockkeeperlaw0_GreatHeaders.l0 k l0 0 0)
theorem lockkeeperlaw0_GreatHeaders.mono_l : ∀ k, (∀ a b c, LeO (lockkeeperlaw0_GreatHeaders.l0 k a b c) (lockkeeperlaw0_GreatHeaders.l0 (k + 1) a b c))
 | 0 => fun _ _ _ r h => by simp [lockkeeperlaw0_GreatHeaders.l0] at h
 | k + 1 => by
  have ih0 := lockkeeperlaw0_GreatHeaders.mono_l k
  ·intros
   unfold lockkeeperlaw0_GreatHeaders.l0
   exact moE
theorem lockkeeperlaw0_GreatHeaders.mono : ∀ a k, LeO (lockkeeperlaw0_GreatHeaders.f k a) (lockkeeperlaw0_GreatHeaders.f (k + 1) a) := by
 intro a k
 have ih0 := lockkeeperlaw0_GreatHeaders.mono_l k
 unfold lockkeeperlaw0_GreatHeaders.f
 exact moE
theorem lockkeeperlaw0_GreatHeaders.calls (k : Nat) (A0 : Option Addr) (c0 : Nat) (l0 : List (S28)) (r : Bool) (w : World) (x : Kd.C k28 w A0 l0.length l0) (y : l0.length ≤ c0) (h : lockkeeperlaw0_GreatHeaders.f k l0 = some r) :
  Calls Tryz.prog 33 #[.slice A0 l0.length c0] w fun e w' => e = .returned (.bool r) ∧ Drawn0 w w' := by
 have c := Aside0.mk x; have HC1 := Aside0.mk y; clear x y; have H := h; clear h; unfold lockkeeperlaw0_GreatHeaders.f at H; revert H; refine itePP_ (fun v H => ?g1p) (fun v H => ?g1n)
 case' g1p =>
  have i : decide (40 < (l0.length : Int)) = true := decide_eq_true v; have j : decide (40 < l0.length) = true := decide_eq_true (by omega); clear v; obtain rfl := si_ H; have z := trivial
 case' g1n =>
  have i : decide (40 < (l0.length : Int)) = false := decide_eq_false v; have j : decide (40 < l0.length) = false := decide_eq_false (by omega); clear v; have H' := Aside0.mk H; clear H; have A := trivial
 all_goals
  go_enter Tryz.func33, Tryz.ntmps33; go_wp2
  first
  | clear z
    go_ret; exact ⟨rS, dE⟩
  | clear A
    go_loopg [3, 4] k (fun kq B D w' => ∃ (b : Int) (a : Int), B = .int .i64 b ∧ D = .int .i64 a ∧ Aside0 (lockkeeperlaw0_GreatHeaders.l0 kq l0 b a = some r) ∧ Aside0 (kq ≤ k) ∧ Drawn0 w w')
    case atStart => exact ⟨(0), (0), rS, rS, H', ⟨Nat.le_refl _⟩, dE⟩
    case round =>
     clear H'; (try clear v); (try clear i); (try clear j); obtain ⟨b, a, rfl, rfl, HA, E, ⟨m1, rfl⟩⟩ := hrel
     cases gk with
     | zero => exact absurd HA.out (by simp [lockkeeperlaw0_GreatHeaders.l0])
     | succ k1 =>
      have H := HA.out; clear HA
      simp only [lockkeeperlaw0_GreatHeaders.l0] at H
      revert H; refine iteDD_ (fun G H => ?g3p) (fun G H => ?g3n)
      case' g3p =>
       revert H; refine iteND_ fun c4b0 => itePP_ (fun I H => ?g4p) (fun I H => ?g4n)
       case' g4p =>
        have J : decide (100 < (((rd_T28 l0 a).f0).size : Int)) = true := decide_eq_true I; have K : decide (100 < ((rd_T28 l0 a).f0).size) = true := decide_eq_true (by omega); clear I; obtain rfl := si_ H; have X : 0 ≤ (a : Int) := of_decide_eq_true mE; have Y : a < (l0.length : Int) := of_decide_eq_true mE; obtain ⟨ad6, L, Z, a0⟩ := at_T28 c.out a X Y
        cases L
        replace X := eq_true X; replace Y := eq_true Y; have d := trivial
       case' g4n =>
        have J : decide (100 < (((rd_T28 l0 a).f0).size : Int)) = false := decide_eq_false I; have K : decide (100 < ((rd_T28 l0 a).f0).size) = false := decide_eq_false (by omega); clear I; revert H; refine itePP_ (fun M H => ?g5p) (fun M H => ?g5n)
        case' g5p =>
         have O : decide (5000 < (((rd_T28 l0 a).f1).size : Int)) = true := decide_eq_true M; have U : decide (5000 < ((rd_T28 l0 a).f1).size) = true := decide_eq_true (by omega); clear M; obtain rfl := si_ H; have l : 0 ≤ (a : Int) := of_decide_eq_true mE; have m : a < (l0.length : Int) := of_decide_eq_true mE; obtain ⟨g, L, n, o⟩ := at_T28 c.out a l m
         cases L
         replace l := eq_true l; replace m := eq_true m; have p : 0 ≤ (a : Int) := of_decide_eq_true mE; have q : a < (l0.length : Int) := of_decide_eq_true mE; obtain ⟨s, e2, t, u⟩ := at_T28 c.out a p q; obtain rfl : g = s := (by injection e2); replace p := eq_true p; replace q := eq_true q; have d := trivial
        case' g5n =>
         have O : decide (5000 < (((rd_T28 l0 a).f1).size : Int)) = false := decide_eq_false M; have U : decide (5000 < ((rd_T28 l0 a).f1).size) = false := decide_eq_false (by omega); clear M; have H' := Aside0.mk H; clear H; have l : 0 ≤ (a : Int) := of_decide_eq_true mE; have m : a < (l0.length : Int) := of_decide_eq_true mE; obtain ⟨g, L, n, o⟩ := at_T28 c.out a l m
         cases L
         replace l := eq_true l; replace m := eq_true m; have p : 0 ≤ (a : Int) := of_decide_eq_true mE; have q : a < (l0.length : Int) := of_decide_eq_true mE; obtain ⟨s, e2, t, u⟩ := at_T28 c.out a p q; obtain rfl : g = s := (by injection e2); replace p := eq_true p; replace q := eq_true q; have p9 : 0 ≤ (a : Int) := of_decide_eq_true mE; have q9 : a < (l0.length : Int) := of_decide_eq_true mE; obtain ⟨ad9, e3, hx9_0, hx9_1⟩ := at_T28 c.out a p9 q9; obtain rfl : g = ad9 := (by injection e3); replace p9 := eq_true p9; replace q9 := eq_true q9; have W := trivial
      case' g3n =>
       obtain rfl := si_ H; have d := trivial
      all_goals
       go_wp2
       first
       | clear d
         go_ret; exact ⟨rS, dE⟩
       | clear W
         go_roundg k1
         case measure => have := E.out; omega
         case rel => exact ⟨(wrap64 (b + (((rd_T28 l0 a).f1).size : Int))), (wrap64 (a + 1)), rS, rS, H', ⟨by have := E.out; omega⟩, dE⟩
def lockkeeperlaw0_GreatReq.f (k : Nat) (a b c : ByteArray) (g : Int) (i : Bool) (d : List (S28)) (j l m n : Int) : Option (Bool) := if (a.size : Int) > 60 then (some true) else (if (b.size : Int) > 700 then (some true) else (if (c.size : Int) > 700 then (some true) else ((lockkeeperlaw0_GreatHeaders.f k d).bind fun e => (some e))))
theorem lockkeeperlaw0_GreatReq.mono : ∀ a b c d e g i j l m k, LeO (lockkeeperlaw0_GreatReq.f k a b c d e g i j l m) (lockkeeperlaw0_GreatReq.f (k + 1) a b c d e g i j l m) := by
 intro a b c d e g i j l m k
 have n := @lockkeeperlaw0_GreatHeaders.mono; unfold lockkeeperlaw0_GreatReq.f
 exact moE
theorem lockkeeperlaw0_GreatReq.calls (k : Nat) (a b c : ByteArray) (g : Int) (i : Bool) (j : Option Addr) (l : Nat) (d : List (S28)) (m n o p : Int) (r : Bool) (w : World) (q : Kd.C k28 w j d.length d) (s : d.length ≤ l) (h : lockkeeperlaw0_GreatReq.f k a b c g i d m n o p = some r) :
  Calls Tryz.prog 17 #[.agg #[.string a, .string b, .string c, .int .i64 g, .bool i, .slice j d.length l, .int .i64 m, .int .u64 n, .int .i64 o, .int .i64 p]] w fun e w' => e = .returned (.bool r) ∧ Below w.heap.size w w' := by
 have ae := Tryz.underlying26; have ab := Aside0.mk q; have u := Aside0.mk s; clear q s; have HB := Aside0.mk (Below.refl w.heap.size w); have H := h; clear h; unfold lockkeeperlaw0_GreatReq.f at H; revert H; refine itePP_ (fun y H => ?g1p) (fun y H => ?g1n)
 case' g1p =>
  have z : decide (60 < (a.size : Int)) = true := decide_eq_true y; have A : decide (60 < a.size) = true := decide_eq_true (by omega); clear y; obtain rfl := si_ H
 case' g1n =>
  have z : decide (60 < (a.size : Int)) = false := decide_eq_false y; have A : decide (60 < a.size) = false := decide_eq_false (by omega); clear y; revert H; refine itePP_ (fun B H => ?g2p) (fun B H => ?g2n)
  case' g2p =>
   have D : decide (700 < (b.size : Int)) = true := decide_eq_true B; have E : decide (700 < b.size) = true := decide_eq_true (by omega); clear B; obtain rfl := si_ H
  case' g2n =>
   have D : decide (700 < (b.size : Int)) = false := decide_eq_false B; have E : decide (700 < b.size) = false := decide_eq_false (by omega); clear B; revert H; refine itePP_ (fun G H => ?g3p) (fun G H => ?g3n)
   case' g3p =>
    have I : decide (700 < (c.size : Int)) = true := decide_eq_true G; have J : decide (700 < c.size) = true := decide_eq_true (by omega); clear G; obtain rfl := si_ H
   case' g3n =>
    have I : decide (700 < (c.size : Int)) = false := decide_eq_false G; have J : decide (700 < c.size) = false := decide_eq_false (by omega); clear G; replace H := bd_ H; obtain ⟨t1, A5, H⟩ := H; obtain rfl := si_ H
 all_goals
  go_enter Tryz.func17, Tryz.ntmps17; go_wp2_with (first | ((with_reducible refine gate_dst (N := 1) rfl ?_); (try (refine gate_guard (by rfl) ?_; dsimp only)); refine bxE (N := 1) (cs := #[.string a, .string b, .string c, .int .i64 g, .bool i, .slice j d.length l, .int .i64 m, .int .u64 n, .int .i64 o, .int .i64 p]) (t := 26) fun ac hg af hbox hb => ?_; obtain ⟨HB', v, x⟩ := bx_ bE hg hbox hb; have ad := x; clear HB hb hbox hg; have HB := HB'; clear HB'; obtain ⟨a1, a2, a3, a4, a5, a6, a7, a8, a9, aa, K, L, M, O, U, W, X, Y, Z, a0⟩ := bk10_ v) | (go_at_call 33; (with_reducible refine (lockkeeperlaw0_GreatHeaders.calls k _ _ d t1 _ ?side1 ?side2 A5.out).mono ?_); (case side1 => exact cE); (case side2 => exact u.out); rintro e w' ⟨rfl, ⟨nd, rfl⟩⟩)); go_ret; exact ⟨rE, bE⟩
def lockkeeperref3_Behind.l0 : Nat → ByteArray → Int → Option (Int)
 | 0, _, _ => none
 | k + 1, b, a => if (wrap64 (a + 3)) ≤ (b.size : Int) then (if 0 ≤ a then (if a ≤ (wrap64 (a + 3)) then (if (b.extract (a : Int).toNat ((wrap64 (a + 3)) : Int).toNat).toList = ([58, 47, 47] : List UInt8) then (some a) else (lockkeeperref3_Behind.l0 k b (wrap64 (a + 1)))) else (none)) else (none)) else (some (-1))
def lockkeeperref3_Behind.f (k : Nat) (a : ByteArray) : Option (Int) := lockkeeperref3_Behind.l0 k a 0
theorem lockkeeperref3_Behind.mono_l : ∀ k, (∀ a b, LeO (lockkeeperref3_Behind.l0 k a b) (lockkeeperref3_Behind.l0 (k + 1) a b))
 | 0 => fun _ _ r h => by simp [lockkeeperref3_Behind.l0] at h
 | k + 1 => by
  have ih0 := lockkeeperref3_Behind.mono_l k
  ·intros
   unfold lockkeeperref3_Behind.l0
   exact moE
theorem lockkeeperref3_Behind.mono : ∀ a k, LeO (lockkeeperref3_Behind.f k a) (lockkeeperref3_Behind.f (k + 1) a) := by
 intro a k
 have ih0 := lockkeeperref3_Behind.mono_l k
 unfold lockkeeperref3_Behind.f
 exact moE
theorem lockkeeperref3_Behind.calls (k : Nat) (c : ByteArray) (r : Int) (w : World) (h : lockkeeperref3_Behind.f k c = some r) :
  Calls Tryz.prog 103 #[.string c] w fun e w' => e = .returned (.int .i64 r) ∧ Drawn0 w w' := by
 have H : (lockkeeperref3_Behind.l0 k c 0) = some r := h; clear h; have H' := Aside0.mk H; clear H; go_enter Tryz.func103, Tryz.ntmps103; go_wp2
 go_loopg [3] k (fun kq d w' => ∃ (a : Int), d = .int .i64 a ∧ Aside0 (lockkeeperref3_Behind.l0 kq c a = some r) ∧ Aside0 (kq ≤ k) ∧ Drawn0 w w')
 case atStart => exact ⟨(0), rS, H', ⟨Nat.le_refl _⟩, dE⟩
 case round =>
  clear H'; obtain ⟨a, rfl, HA, g, ⟨u, rfl⟩⟩ := hrel
  cases gk with
  | zero => exact absurd HA.out (by simp [lockkeeperref3_Behind.l0])
  | succ k1 =>
   have H := HA.out; clear HA
   simp only [lockkeeperref3_Behind.l0] at H
   revert H; refine iteDD_ (fun i H => ?g1p) (fun i H => ?g1n)
   case' g1p =>
    revert H; refine iteNT_ fun n o => iteNP_ fun p H => ?_; have q := eq_true p; have s := decide_eq_true p; have t := eq_true (of_decide_eq_true mE : (wrap64 (a + 3)) ≤ (c.size : Int)); revert H; refine iteEF_ (fun j l H => ?g2p) (fun v j l H => ?g2n)
    case' g2p =>
     obtain rfl := si_ H; have b := trivial
    case' g2n =>
     have H' := Aside0.mk H; clear H; have m := trivial
   case' g1n =>
    obtain rfl := si_ H; have b := trivial
   all_goals
    go_wp2
    first
    | clear b
      go_ret; exact ⟨rS, dE⟩
    | clear m
      go_roundg k1
      case measure => have := g.out; omega
      case rel => exact ⟨(wrap64 (a + 1)), rS, H', ⟨by have := g.out; omega⟩, dE⟩
def lockkeeperref3_Default.f (a : ByteArray) : Option (Int) := if a.toList = ([104, 116, 116, 112] : List UInt8) then (some 80) else (if a.toList = ([104, 116, 116, 112, 115] : List UInt8) then (some 443) else (some 0))
theorem lockkeeperref3_Default.calls (g : ByteArray) (r : Int) (w : World) (h : lockkeeperref3_Default.f g = some r) :
  Calls Tryz.prog 108 #[.string g] w fun e w' => e = .returned (.int .i64 r) ∧ Drawn0 w w' := by
 have H := h; clear h; unfold lockkeeperref3_Default.f at H; revert H; refine iteEF_ (fun a b H => ?g1p) (fun i a b H => ?g1n)
 case' g1p =>
  obtain rfl := si_ H
 case' g1n =>
  revert H; refine iteEF_ (fun c d H => ?g2p) (fun j c d H => ?g2n)
  case' g2p =>
   obtain rfl := si_ H
  case' g2n =>
   obtain rfl := si_ H
 all_goals
  go_enter Tryz.func108, Tryz.ntmps108; go_wp2; go_ret; exact ⟨rS, dE⟩
def lockkeeperref1_Num.l0 : Nat → Int → ByteArray → Option (ByteArray)
 | 0, _, _ => none
 | k + 1, a, b => if a > 9 then (if 0 ≤ (Int.tmod a 10) then (if (Int.tmod a 10) ≤ (IntKind.u64.wrap ((Int.tmod a 10) + 1)) then (if (IntKind.u64.wrap ((Int.tmod a 10) + 1)) ≤ 10 then (if ((⟨#[48, 49, 50, 51, 52, 53, 54, 55, 56, 57]⟩ : ByteArray).extract ((Int.tmod a 10) : Int).toNat ((IntKind.u64.wrap ((Int.tmod a 10) + 1)) : Int).toNat).size + b.size ≤ 9223372036854775807 then (lockkeeperref1_Num.l0 k (IntKind.u64.wrap (Int.tdiv a 10)) (((⟨#[48, 49, 50, 51, 52, 53, 54, 55, 56, 57]⟩ : ByteArray).extract ((Int.tmod a 10) : Int).toNat ((IntKind.u64.wrap ((Int.tmod a 10) + 1)) : Int).toNat) ++ b)) else (none)) else (none)) else (none)) else (none)) else (if 0 ≤ a then (if a ≤ (IntKind.u64.wrap (a + 1)) then (if (IntKind.u64.wrap (a + 1)) ≤ 10 then (if ((⟨#[48, 49, 50, 51, 52, 53, 54, 55, 56, 57]⟩ : ByteArray).extract (a : Int).toNat ((IntKind.u64.wrap (a + 1)) : Int).toNat).size + b.size ≤ 9223372036854775807 then (some (((⟨#[48, 49, 50, 51, 52, 53, 54, 55, 56, 57]⟩ : ByteArray).extract (a : Int).toNat ((IntKind.u64.wrap (a + 1)) : Int).toNat) ++ b)) else (none)) else (none)) else (none)) else (none))
def lockkeeperref1_Num.f (k : Nat) (a : Int) : Option (ByteArray) := lockkeeperref1_Num.l0 k a (⟨#[]⟩ : ByteArray)
theorem lockkeeperref1_Num.mono_l : ∀ k, (∀ a b, LeO (lockkeeperref1_Num.l0 k a b) (lockkeeperref1_Num.l0 (k + 1) a b))
 | 0 => fun _ _ r h => by simp [lockkeeperref1_Num.l0] at h
 | k + 1 => by
  have ih0 := lockkeeperref1_Num.mono_l k
  ·intros
   unfold lockkeeperref1_Num.l0
   exact moE
theorem lockkeeperref1_Num.mono : ∀ a k, LeO (lockkeeperref1_Num.f k a) (lockkeeperref1_Num.f (k + 1) a) := by
 intro a k
 have ih0 := lockkeeperref1_Num.mono_l k
 unfold lockkeeperref1_Num.f
 exact moE
theorem lockkeeperref1_Num.calls (k : Nat) (y : Int) (r : ByteArray) (w : World) (h : lockkeeperref1_Num.f k y = some r) :
  Calls Tryz.prog 120 #[.int .u64 y] w fun e w' => e = .returned (.string r) ∧ Drawn0 w w' := by
 have H : (lockkeeperref1_Num.l0 k y (⟨#[]⟩ : ByteArray)) = some r := h; clear h; have H' := Aside0.mk H; clear H; go_enter Tryz.func120, Tryz.ntmps120; go_wp2
 go_loopg [0, 3] k (fun kq g i w' => ∃ (a : Int) (b : ByteArray), g = .int .u64 a ∧ i = .string b ∧ Aside0 (lockkeeperref1_Num.l0 kq a b = some r) ∧ Aside0 (kq ≤ k) ∧ Drawn0 w w')
 case atStart => exact ⟨(y), ((⟨#[]⟩ : ByteArray)), rS, rS, H', ⟨Nat.le_refl _⟩, dE⟩
 case round =>
  clear H'; obtain ⟨a, b, rfl, rfl, HA, j, ⟨K, rfl⟩⟩ := hrel
  cases gk with
  | zero => exact absurd HA.out (by simp [lockkeeperref1_Num.l0])
  | succ k1 =>
   have H := HA.out; clear HA
   simp only [lockkeeperref1_Num.l0] at H
   revert H; refine iteGG_ (fun l H => ?g1p) (fun l H => ?g1n)
   case' g1p =>
    generalize m : (Int.tmod a 10) = c at H; revert H; refine iteNT_ fun n o => iteNP_ fun p H => ?_; have q := eq_true p; have s := decide_eq_true p; revert H; refine iteNP_ fun d H => ?_; have t := eq_true d; have u := decide_eq_true d; revert H; refine iteNP_ fun z H => ?_; have A := eq_true z; have B := decide_eq_true z
    try have D : (9223372036854775807 < ((⟨#[48, 49, 50, 51, 52, 53, 54, 55, 56, 57]⟩ : ByteArray).extract ((c) : Int).toNat ((IntKind.u64.wrap ((c) + 1)) : Int).toNat).size + b.size) = False := eq_false (Nat.not_lt.2 z)
    have H' := Aside0.mk H; clear H; have v := trivial
   case' g1n =>
    revert H; refine iteNT_ fun E G => iteNP_ fun I H => ?_; have n := eq_true I; have o := decide_eq_true I; revert H; refine iteNP_ fun p H => ?_; have q := eq_true p; have s := decide_eq_true p; revert H; refine iteNP_ fun d H => ?_; have t := eq_true d; have u := decide_eq_true d
    try have J : (9223372036854775807 < ((⟨#[48, 49, 50, 51, 52, 53, 54, 55, 56, 57]⟩ : ByteArray).extract (a : Int).toNat ((IntKind.u64.wrap (a + 1)) : Int).toNat).size + b.size) = False := eq_false (Nat.not_lt.2 d)
    obtain rfl := si_ H; have x := trivial
   all_goals
    go_wp2
    first
    | clear v
      go_roundg k1
      case measure => have := j.out; omega
      case rel => exact ⟨(IntKind.u64.wrap (Int.tdiv a 10)), (((⟨#[48, 49, 50, 51, 52, 53, 54, 55, 56, 57]⟩ : ByteArray).extract ((c) : Int).toNat ((IntKind.u64.wrap ((c) + 1)) : Int).toNat) ++ b), rS, (by first | rfl | (simp; done) | (simp only [← m] <;> (first | rfl | simp)) | (simp [*]; done)), H', ⟨by have := j.out; omega⟩, dE⟩
    | clear x
      go_ret; exact ⟨rS, dE⟩
mutual
def lockkeeperref1_Digits.l0 : Nat → ByteArray → Int → Int → Option (Int × Bool)
 | 0, _, _, _ => none
 | k + 1, a, c, b => if b < (a.size : Int) then (if 0 ≤ b then (if (bt a b) < 48 then (lockkeeperref1_Digits.j1 k a c b true) else (lockkeeperref1_Digits.j1 k a c b (decide ((bt a b) > 57)))) else (none)) else (some (c, decide ((a.size : Int) > 0)))
def lockkeeperref1_Digits.j1 : Nat → ByteArray → Int → Int → Bool → Option (Int × Bool)
 | 0, _, _, _, _ => none
 | k + 1, b, d, a, c => if c = true then (some (0, false)) else (if 0 ≤ a then (if a < (b.size : Int) then (if d > ((18446744073709551615 - (((bt b a) - 48) % 256)) / 10) then (lockkeeperref1_Digits.l0 k b 18446744073709551615 (wrap64 (a + 1))) else (lockkeeperref1_Digits.l0 k b (IntKind.u64.wrap ((IntKind.u64.wrap (10 * d)) + (((bt b a) - 48) % 256))) (wrap64 (a + 1)))) else (none)) else (none))
end
def lockkeeperref1_Digits.f (k : Nat) (a : ByteArray) : Option (Int × Bool) := lockkeeperref1_Digits.l0 k a 0 0
theorem lockkeeperref1_Digits.mono_l : ∀ k, (∀ a b c, LeO (lockkeeperref1_Digits.l0 k a b c) (lockkeeperref1_Digits.l0 (k + 1) a b c)) ∧ (∀ a b c d, LeO (lockkeeperref1_Digits.j1 k a b c d) (lockkeeperref1_Digits.j1 (k + 1) a b c d))
 | 0 => ⟨fun _ _ _ r h => by simp [lockkeeperref1_Digits.l0] at h, fun _ _ _ _ r h => by simp [lockkeeperref1_Digits.j1] at h⟩
 | k + 1 => by
  obtain ⟨ih0, ih1⟩ := lockkeeperref1_Digits.mono_l k
  refine ⟨?_, ?_⟩
  ·intros
   unfold lockkeeperref1_Digits.l0
   exact moE
  ·intros
   unfold lockkeeperref1_Digits.j1
   exact moE
theorem lockkeeperref1_Digits.mono : ∀ a k, LeO (lockkeeperref1_Digits.f k a) (lockkeeperref1_Digits.f (k + 1) a) := by
 intro a k
 obtain ⟨ih0, ih1⟩ := lockkeeperref1_Digits.mono_l k
 unfold lockkeeperref1_Digits.f
 exact moE
theorem lockkeeperref1_Digits.calls (k : Nat) (d : ByteArray) (p : Int) (q : Bool) (w : World) (h : lockkeeperref1_Digits.f k d = some (p, q)) :
  Calls Tryz.prog 151 #[.string d] w fun e w' => e = .returned (.tuple #[.int .u64 p, .bool q]) ∧ Drawn0 w w' := by
 have H : (lockkeeperref1_Digits.l0 k d 0 0) = some (p, q) := h; clear h; have H' := Aside0.mk H; clear H; go_enter Tryz.func151, Tryz.ntmps151; go_wp2
 go_loopg [4, 5] k (fun kq r t w' => ∃ (b : Int) (a : Int), r = .int .u64 b ∧ t = .int .i64 a ∧ Aside0 (lockkeeperref1_Digits.l0 kq d b a = some (p, q)) ∧ Aside0 (kq ≤ k) ∧ Drawn0 w w')
 case atStart => exact ⟨(0), (0), rS, rS, H', ⟨Nat.le_refl _⟩, dE⟩
 case round =>
  clear H'; obtain ⟨b, a, rfl, rfl, HA, g, ⟨m1, rfl⟩⟩ := hrel
  cases gk with
  | zero => exact absurd HA.out (by simp [lockkeeperref1_Digits.l0])
  | succ k1 =>
   have H := HA.out; clear HA
   simp only [lockkeeperref1_Digits.l0] at H
   revert H; refine iteDD_ (fun j H => ?g1p) (fun j H => ?g1n)
   case' g1p =>
    have m := Aside0.mk H; clear H; have u := trivial
   case' g1n =>
    simp only [Option.some.injEq, Prod.mk.injEq] at H
    obtain ⟨rfl, rfl⟩ := H; have v := trivial
   all_goals
    first
    | clear u
      go_upto_region 5 with (first | (fail))
      go_cut [22] (fun y wc => ∃ (kq : Nat) (c : Bool), y = .bool c ∧ Aside0 (lockkeeperref1_Digits.j1 kq d b a c = some (p, q)) ∧ Aside0 (kq ≤ k1) ∧ Drawn0 w wc)
      case first =>
       have H := m.out; clear m; revert H; refine iteND_ fun i H => ?_; (first | rw [i] | (simp only [i64_w, i32_w]; rw [i]) | skip); revert H; refine iteDD_ (fun z H => ?g3p) (fun z H => ?g3n)
       case' g3p =>
        have H' := Aside0.mk H; clear H; obtain ⟨Y, Z, J⟩ := btf_ (s := d) (x := a) mE mE; have A := trivial
       case' g3n =>
        have H' := Aside0.mk H; clear H; obtain ⟨Y, Z, J⟩ := btf_ (s := d) (x := a) mE mE; obtain ⟨p7, q7, K⟩ := btf_ (s := d) (x := a) mE mE; have B := trivial
       all_goals
        go_wp2; go_meet
        first
        | clear A
          case rel => exact ⟨_, (true), rS, H', ⟨by have := g.out; first | omega | exact Nat.le_refl _⟩, dE⟩
        | clear B
          case rel => exact ⟨_, (decide ((bt d a) > 57)), rS, H', ⟨by have := g.out; first | omega | exact Nat.le_refl _⟩, dE⟩
      case rest =>
       clear m; (try clear j); (try clear i); (try clear p7); (try clear q7); (try clear K); obtain ⟨kq, c, rfl, HA, n, ⟨mc2, rfl⟩⟩ := hcut
       cases kq with
       | zero => exact absurd HA.out (by simp [lockkeeperref1_Digits.j1])
       | succ L =>
        have H := HA.out; clear HA
        simp only [lockkeeperref1_Digits.j1] at H
        revert H; refine iteB_ (fun M H => ?g5p) (fun M H => ?g5n)
        case' g5p =>
         subst M
         simp only [Option.some.injEq, Prod.mk.injEq] at H
         obtain ⟨rfl, rfl⟩ := H; have D := trivial
        case' g5n =>
         subst M; revert H; refine iteND_ fun X => iteND_ fun O => iteGG_ (fun o H => ?g6p) (fun o H => ?g6n)
         case' g6p =>
          have H' := Aside0.mk H; clear H; obtain ⟨U, W, E⟩ := btf_ (s := d) (x := a) mE mE; have l := trivial; have G := trivial
         case' g6n =>
          have H' := Aside0.mk H; clear H; obtain ⟨U, W, E⟩ := btf_ (s := d) (x := a) mE mE; have l := trivial; have I := trivial
        all_goals
         go_wp2
         first
         | clear D
           go_ret2; exact ⟨rS, dE⟩
         | clear l
           go_roundg L
           case measure => have := g.out; have := n.out; omega
           first
           | clear G
             case rel => exact ⟨(18446744073709551615), (wrap64 (a + 1)), rS, rS, H', ⟨by have := g.out; have := n.out; omega⟩, dE⟩
           | clear I
             case rel => exact ⟨(IntKind.u64.wrap ((IntKind.u64.wrap (10 * b)) + (((bt d a) - 48) % 256))), (wrap64 (a + 1)), rS, rS, H', ⟨by have := g.out; have := n.out; omega⟩, dE⟩
    | clear v
      go_wp2; go_ret2; exact ⟨rS, dE⟩
def lockkeeperref1_Count.f (k : Nat) (c : ByteArray) (d : Int) : Option (Int × Bool) := (lockkeeperref1_Digits.f k c).bind fun a => (if a.2 = true then (if (c.size : Int) > 20 then (some (0, false)) else ((lockkeeperref1_Num.f k a.1).bind fun b => (if b.toList = c.toList then (if a.1 > d then (some (0, false)) else (some (a.1, true))) else (some (0, false))))) else (some (0, false)))
theorem lockkeeperref1_Count.mono : ∀ a b k, LeO (lockkeeperref1_Count.f k a b) (lockkeeperref1_Count.f (k + 1) a b) := by
 intro a b k
 have c := @lockkeeperref1_Digits.mono; have d := @lockkeeperref1_Num.mono; unfold lockkeeperref1_Count.f
 exact moE
theorem lockkeeperref1_Count.calls (k : Nat) (a : ByteArray) (m n : Int) (o : Bool) (w : World) (h : lockkeeperref1_Count.f k a m = some (n, o)) :
  Calls Tryz.prog 109 #[.string a, .int .u64 m] w fun e w' => e = .returned (.tuple #[.int .u64 n, .bool o]) ∧ Drawn0 w w' := by
 have H := h; clear h; unfold lockkeeperref1_Count.f at H; replace H := bd_ H; obtain ⟨⟨b, r⟩, s, H⟩ := H; replace H : (if r = true then (if (a.size : Int) > 20 then (some (0, false)) else ((lockkeeperref1_Num.f k b).bind fun q => (if q.toList = a.toList then (if b > m then (some (0, false)) else (some (b, true))) else (some (0, false))))) else (some (0, false))) = some (n, o) := H; revert H; refine iteB_ (fun p H => ?g1p) (fun p H => ?g1n)
 case' g1p =>
  subst p; revert H; refine itePP_ (fun c H => ?g2p) (fun c H => ?g2n)
  case' g2p =>
   have d : decide (20 < (a.size : Int)) = true := decide_eq_true c; have g : decide (20 < a.size) = true := decide_eq_true (by omega); clear c
   simp only [Option.some.injEq, Prod.mk.injEq] at H
   obtain ⟨rfl, rfl⟩ := H
  case' g2n =>
   have d : decide (20 < (a.size : Int)) = false := decide_eq_false c; have g : decide (20 < a.size) = false := decide_eq_false (by omega); clear c; replace H := bd_ H; obtain ⟨q, t, H⟩ := H; revert H; refine iteEF_ (fun i j H => ?g3p) (fun u i j H => ?g3n)
   case' g3p =>
    revert H; refine iteGG_ (fun l H => ?g4p) (fun l H => ?g4n)
    case' g4p =>
     simp only [Option.some.injEq, Prod.mk.injEq] at H
     obtain ⟨rfl, rfl⟩ := H
    case' g4n =>
     simp only [Option.some.injEq, Prod.mk.injEq] at H
     obtain ⟨rfl, rfl⟩ := H
   case' g3n =>
    simp only [Option.some.injEq, Prod.mk.injEq] at H
    obtain ⟨rfl, rfl⟩ := H
 case' g1n =>
  subst p
  simp only [Option.some.injEq, Prod.mk.injEq] at H
  obtain ⟨rfl, rfl⟩ := H
 all_goals
  go_enter Tryz.func109, Tryz.ntmps109; go_wp2_with (first | ((with_reducible refine gate_callee (f := 151) rfl ?_); refine gL _ Tryz.func151 _ ((lockkeeperref1_Digits.calls k a b _ _ s.out).mono ?_); rintro e w' ⟨rfl, ⟨nd, rfl⟩⟩; refine ⟨_, rfl, ?_⟩) | (go_at_call 120; (with_reducible refine (lockkeeperref1_Num.calls k b _ _ t.out).mono ?_); rintro e w' ⟨rfl, ⟨nd, rfl⟩⟩)); go_ret2; exact ⟨rS, dE⟩
mutual
def lockkeeperref3_host.l0 : Nat → ByteArray → Int → Int → Option (Bool)
 | 0, _, _, _ => none
 | k + 1, b, c, a => if a ≤ (b.size : Int) then (if a < (b.size : Int) then (if 0 ≤ a then (lockkeeperref3_host.j1 k b c a ((bt b a) != 46)) else (none)) else (lockkeeperref3_host.j1 k b c a false)) else (some true)
def lockkeeperref3_host.j1 : Nat → ByteArray → Int → Int → Bool → Option (Bool)
 | 0, _, _, _, _ => none
 | k + 1, b, c, a, d => if d = true then (if 0 ≤ a then (if a < (b.size : Int) then (if (bt b a) = 45 then (lockkeeperref3_host.j2 k b c a false) else (if (bt b a) < 97 then (if (bt b a) < 48 then (lockkeeperref3_host.j2 k b c a true) else (lockkeeperref3_host.j2 k b c a (decide ((bt b a) > 57)))) else (if (bt b a) > 122 then (if (bt b a) < 48 then (lockkeeperref3_host.j2 k b c a true) else (lockkeeperref3_host.j2 k b c a (decide ((bt b a) > 57)))) else (lockkeeperref3_host.j2 k b c a false)))) else (none)) else (none)) else (if (wrap64 (a - c)) < 1 then (some false) else (if (wrap64 (a - c)) > 63 then (some false) else (if 0 ≤ c then (if c < (b.size : Int) then (if (bt b c) = 45 then (some false) else (if 0 ≤ (wrap64 (a - 1)) then (if (wrap64 (a - 1)) < (b.size : Int) then (if (bt b (wrap64 (a - 1))) = 45 then (some false) else (lockkeeperref3_host.l0 k b (wrap64 (a + 1)) (wrap64 (a + 1)))) else (none)) else (none))) else (none)) else (none))))
def lockkeeperref3_host.j2 : Nat → ByteArray → Int → Int → Bool → Option (Bool)
 | 0, _, _, _, _ => none
 | k + 1, b, c, d, a => if a = true then (some false) else (lockkeeperref3_host.l0 k b c (wrap64 (d + 1)))
end
def lockkeeperref3_host.f (k : Nat) (a : ByteArray) : Option (Bool) := if (a.size : Int) > 253 then (some false) else (lockkeeperref3_host.l0 k a 0 0)
theorem lockkeeperref3_host.mono_l : ∀ k, (∀ a b c, LeO (lockkeeperref3_host.l0 k a b c) (lockkeeperref3_host.l0 (k + 1) a b c)) ∧ (∀ a b c d, LeO (lockkeeperref3_host.j1 k a b c d) (lockkeeperref3_host.j1 (k + 1) a b c d)) ∧ (∀ a b c d, LeO (lockkeeperref3_host.j2 k a b c d) (lockkeeperref3_host.j2 (k + 1) a b c d))
 | 0 => ⟨fun _ _ _ r h => by simp [lockkeeperref3_host.l0] at h, fun _ _ _ _ r h => by simp [lockkeeperref3_host.j1] at h, fun _ _ _ _ r h => by simp [lockkeeperref3_host.j2] at h⟩
 | k + 1 => by
  obtain ⟨ih0, ih1, ih2⟩ := lockkeeperref3_host.mono_l k
  refine ⟨?_, ?_, ?_⟩
  ·intros
   unfold lockkeeperref3_host.l0
   exact moE
  ·intros
   unfold lockkeeperref3_host.j1
   exact moE
  ·intros
   unfold lockkeeperref3_host.j2
   exact moE
theorem lockkeeperref3_host.mono : ∀ a k, LeO (lockkeeperref3_host.f k a) (lockkeeperref3_host.f (k + 1) a) := by
 intro a k
 obtain ⟨ih0, ih1, ih2⟩ := lockkeeperref3_host.mono_l k
 unfold lockkeeperref3_host.f
 exact moE
theorem lockkeeperref3_host.calls (k : Nat) (o : ByteArray) (r : Bool) (w : World) (h : lockkeeperref3_host.f k o = some r) :
  Calls Tryz.prog 152 #[.string o] w fun e w' => e = .returned (.bool r) ∧ Drawn0 w w' := by
 have H := h; clear h; unfold lockkeeperref3_host.f at H; revert H; refine itePP_ (fun M H => ?g1p) (fun M H => ?g1n)
 case' g1p =>
  have y : decide (253 < (o.size : Int)) = true := decide_eq_true M; have z : decide (253 < o.size) = true := decide_eq_true (by omega); clear M; obtain rfl := si_ H; have a7 := trivial
 case' g1n =>
  have y : decide (253 < (o.size : Int)) = false := decide_eq_false M; have z : decide (253 < o.size) = false := decide_eq_false (by omega); clear M; have H' := Aside0.mk H; clear H; have a8 := trivial
 all_goals
  go_enter Tryz.func152, Tryz.ntmps152; go_wp2
  first
  | clear a7
    go_ret; exact ⟨rS, dE⟩
  | clear a8
    go_loopg [3, 4] k (fun kq a9 aa w' => ∃ (c : Int) (a : Int), a9 = .int .i64 c ∧ aa = .int .i64 a ∧ Aside0 (lockkeeperref3_host.l0 kq o c a = some r) ∧ Aside0 (kq ≤ k) ∧ Drawn0 w w')
    case atStart => exact ⟨(0), (0), rS, rS, H', ⟨Nat.le_refl _⟩, dE⟩
    case round =>
     clear H'; (try clear M); (try clear y); (try clear z); obtain ⟨c, a, rfl, rfl, HA, j, ⟨m1, rfl⟩⟩ := hrel
     cases gk with
     | zero => exact absurd HA.out (by simp [lockkeeperref3_host.l0])
     | succ k1 =>
      have H := HA.out; clear HA
      simp only [lockkeeperref3_host.l0] at H
      revert H; refine iteDD_ (fun A H => ?g3p) (fun A H => ?g3n)
      case' g3p =>
       have X := Aside0.mk H; clear H; have ab := trivial
      case' g3n =>
       obtain rfl := si_ H; have ac := trivial
      all_goals
       first
       | clear ab
         go_upto_region 7 with (first | (fail))
         go_cut [24] (fun ad wc => ∃ (kq : Nat) (p : Bool), ad = .bool p ∧ Aside0 (lockkeeperref3_host.j1 kq o c a p = some r) ∧ Aside0 (kq ≤ k1) ∧ Drawn0 w wc)
         case first =>
          have H := X.out; clear X; revert H; refine iteDD_ (fun d H => ?g5p) (fun d H => ?g5n)
          case' g5p =>
           (first | rw [d] | (simp only [i64_w, i32_w]; rw [d]) | skip); revert H; refine iteND_ fun O H => ?_; have H' := Aside0.mk H; clear H; obtain ⟨p7, q7, ae⟩ := btf_ (s := o) (x := a) mE mE; have af := trivial
          case' g5n =>
           (first | rw [d] | (simp only [i64_w, i32_w]; rw [d]) | skip); have H' := Aside0.mk H; clear H; have ag := trivial
          all_goals
           go_wp2; go_meet
           first
           | clear af
             case rel => exact ⟨_, (((bt o a) != 46)), rS, H', ⟨by have := j.out; first | omega | exact Nat.le_refl _⟩, dE⟩
           | clear ag
             case rel => exact ⟨_, (false), rS, H', ⟨by have := j.out; first | omega | exact Nat.le_refl _⟩, dE⟩
         case rest =>
          clear X; (try clear M); (try clear y); (try clear z); (try clear A); (try clear d); (try clear O); (try clear p7); (try clear q7); (try clear ae); obtain ⟨kq, p, rfl, HA, q, ⟨mc3, rfl⟩⟩ := hcut
          cases kq with
          | zero => exact absurd HA.out (by simp [lockkeeperref3_host.j1])
          | succ ah =>
           have H := HA.out; clear HA
           simp only [lockkeeperref3_host.j1] at H
           revert H; refine iteB_ (fun c8 H => ?g7p) (fun c8 H => ?g7n)
           case' g7p =>
            subst c8; revert H; refine iteND_ fun B => iteND_ fun t H => ?_; have D := Aside0.mk H; clear H; obtain ⟨p12, q12, ai⟩ := btf_ (s := o) (x := a) mE mE; have Y := trivial
           case' g7n =>
            subst c8; revert H; refine iteDD_ (fun B H => ?g8p) (fun B H => ?g8n)
            case' g8p =>
             obtain rfl := si_ H; have g := trivial; have l := trivial; have u := trivial
            case' g8n =>
             revert H; refine iteGG_ (fun t H => ?g9p) (fun t H => ?g9n)
             case' g9p =>
              obtain rfl := si_ H; have g := trivial; have l := trivial; have u := trivial
             case' g9n =>
              revert H; refine iteND_ fun c11b0 => iteND_ fun c12b0 => iteEF_ (fun b m H => ?g10p) (fun aj b m H => ?g10n)
              case' g10p =>
               obtain rfl := si_ H; obtain ⟨p14, q14, hx14⟩ := btf_ (s := o) (x := c) mE mE; have g := trivial; have l := trivial; have u := trivial
              case' g10n =>
               generalize E : (wrap64 (a - 1)) = U at H; have hji14w := (i64_w _).trans E; revert H; refine iteND_ fun i => iteND_ fun v => iteEF_ (fun G Z H => ?g11p) (fun c17 G Z H => ?g11n)
               case' g11p =>
                obtain rfl := si_ H; obtain ⟨p18, q18, ak⟩ := btf_ (s := o) (x := c) mE mE; obtain ⟨p19, q19, al⟩ := btf_ (s := o) (x := (U)) mE mE; have g := trivial; have l := trivial; have a1 := trivial
               case' g11n =>
                have H' := Aside0.mk H; clear H; obtain ⟨p18, q18, ak⟩ := btf_ (s := o) (x := c) mE mE; obtain ⟨p19, q19, al⟩ := btf_ (s := o) (x := (U)) mE mE; have g := trivial; have a2 := trivial
           all_goals
            first
            | clear Y
              go_upto_region 9 with (first | (fail))
              go_cut [45] (fun a3 wc => ∃ (kq : Nat) (n : Bool), a3 = .bool n ∧ Aside0 (lockkeeperref3_host.j2 kq o c a n = some r) ∧ Aside0 (kq ≤ ah) ∧ Drawn0 w wc)
              case first =>
               have H := D.out; clear D; revert H; refine iteEF_ (fun b m H => ?g13p) (fun aj b m H => ?g13n)
               case' g13p =>
                (first | rw [b] | (simp only [i64_w, i32_w]; rw [b]) | skip); have H' := Aside0.mk H; clear H; have I := trivial
               case' g13n =>
                (first | rw [b] | (simp only [i64_w, i32_w]; rw [b]) | skip); revert H; refine iteDD_ (fun J H => ?g14p) (fun J H => ?g14n)
                case' g14p =>
                 revert H; refine iteDD_ (fun i H => ?g15p) (fun i H => ?g15n)
                 case' g15p =>
                  have H' := Aside0.mk H; clear H; have K := trivial
                 case' g15n =>
                  have H' := Aside0.mk H; clear H; have L := trivial
                case' g14n =>
                 revert H; refine iteGG_ (fun i H => ?g16p) (fun i H => ?g16n)
                 case' g16p =>
                  revert H; refine iteDD_ (fun v H => ?g17p) (fun v H => ?g17n)
                  case' g17p =>
                   have H' := Aside0.mk H; clear H; have K := trivial
                  case' g17n =>
                   have H' := Aside0.mk H; clear H; have L := trivial
                 case' g16n =>
                  have H' := Aside0.mk H; clear H; have I := trivial
               all_goals
                go_wp2; go_meet
                first
                | clear I
                  case rel => exact ⟨_, (false), rS, H', ⟨by have := j.out; have := q.out; first | omega | exact Nat.le_refl _⟩, dE⟩
                | clear K
                  case rel => exact ⟨_, (true), rS, H', ⟨by have := j.out; have := q.out; first | omega | exact Nat.le_refl _⟩, dE⟩
                | clear L
                  case rel => exact ⟨_, (decide ((bt o a) > 57)), rS, H', ⟨by have := j.out; have := q.out; first | omega | exact Nat.le_refl _⟩, dE⟩
              case rest =>
               clear D; (try clear M); (try clear y); (try clear z); (try clear A); (try clear d); (try clear O); (try clear p7); (try clear q7); (try clear ae); (try clear c8); (try clear B); (try clear t); (try clear p12); (try clear q12); (try clear ai); (try clear aj); (try clear b); (try clear m); (try clear J); (try clear i); (try clear v); (try clear c17); (try clear G); obtain ⟨kq, n, rfl, HA, W, ⟨mc11, rfl⟩⟩ := hcut
               cases kq with
               | zero => exact absurd HA.out (by simp [lockkeeperref3_host.j2])
               | succ am =>
                have H := HA.out; clear HA
                simp only [lockkeeperref3_host.j2] at H
                revert H; refine iteB_ (fun a4 H => ?g19p) (fun a4 H => ?g19n)
                case' g19p =>
                 subst a4; obtain rfl := si_ H; have a5 := trivial
                case' g19n =>
                 subst a4; have H' := Aside0.mk H; clear H; have a6 := trivial
                all_goals
                 go_wp2
                 first
                 | clear a5
                   go_ret; exact ⟨rS, dE⟩
                 | clear a6
                   go_roundg am
                   case measure => have := j.out; have := q.out; have := W.out; omega
                   case rel => exact ⟨(c), (wrap64 (a + 1)), rS, rS, H', ⟨by have := j.out; have := q.out; have := W.out; omega⟩, dE⟩
            | clear g
              go_wp2
              first
              | clear l
                go_ret
                first
                | clear u
                  exact ⟨rS, dE⟩
                | clear a1
                  exact ⟨by first | rfl | (simp; done) | (simp only [← E] <;> (first | rfl | simp)) | (simp [*]; done), dE⟩
              | clear a2
                go_roundg ah
                case measure => have := j.out; have := q.out; omega
                case rel => exact ⟨(wrap64 (a + 1)), (wrap64 (a + 1)), rS, rS, H', ⟨by have := j.out; have := q.out; omega⟩, dE⟩
       | clear ac
         go_wp2; go_ret; exact ⟨rS, dE⟩
def lockkeeperref3_Check.f (k : Nat) (b c : ByteArray) (a : Int) : Option (Bool) := (lockkeeperref3_Default.f b).bind fun d => (if d = 0 then (some false) else ((lockkeeperref3_host.f k c).bind fun e => (if e = true then (if a ≥ 1 then (some (decide (a ≤ 65535))) else (some false)) else (some false))))
theorem lockkeeperref3_Check.mono : ∀ a b c k, LeO (lockkeeperref3_Check.f k a b c) (lockkeeperref3_Check.f (k + 1) a b c) := by
 intro a b c k
 have d := @lockkeeperref3_host.mono; unfold lockkeeperref3_Check.f
 exact moE
theorem lockkeeperref3_Check.calls (k : Nat) (a b : ByteArray) (c : Int) (r : Bool) (w : World) (h : lockkeeperref3_Check.f k a b c = some r) :
  Calls Tryz.prog 110 #[.agg #[.string a, .string b, .int .i64 c]] w fun e w' => e = .returned (.bool r) ∧ Below w.heap.size w w' := by
 have y := Tryz.underlying70; have HB := Aside0.mk (Below.refl w.heap.size w); have H := h; clear h; unfold lockkeeperref3_Check.f at H; replace H := bd_ H; obtain ⟨D, A, H⟩ := H; revert H; refine iteEF_ (fun i j H => ?g1p) (fun E i j H => ?g1n)
 case' g1p =>
  obtain rfl := si_ H
 case' g1n =>
  replace H := bd_ H; obtain ⟨G, B, H⟩ := H; revert H; refine iteB_ (fun u H => ?g2p) (fun u H => ?g2n)
  case' g2p =>
   subst u; revert H; refine iteJJ_ (fun l H => ?g3p) (fun l H => ?g3n)
   case' g3p =>
    obtain rfl := si_ H
   case' g3n =>
    obtain rfl := si_ H
  case' g2n =>
   subst u; obtain rfl := si_ H
 all_goals
  go_enter Tryz.func110, Tryz.ntmps110; go_wp2_with (first | ((with_reducible refine gate_dst (N := 1) rfl ?_); refine bxE (N := 1) (cs := #[.string a, .string b, .int .i64 c]) (t := 70) fun v hg z hbox hb => ?_; obtain ⟨HB', d, g⟩ := bx_ bE hg hbox hb; have x := g; clear HB hb hbox hg; have HB := HB'; clear HB'; obtain ⟨p, q, s, m, n, o⟩ := bk3_ d) | ((with_reducible refine gate_callee (f := 108) rfl ?_); refine gL _ Tryz.func108 _ ((lockkeeperref3_Default.calls a _ _ A.out).mono ?_); rintro e w' ⟨rfl, ⟨nd, rfl⟩⟩; refine ⟨_, rfl, ?_⟩) | (go_at_call 152; (with_reducible refine (lockkeeperref3_host.calls k b _ _ B.out).mono ?_); rintro e w' ⟨rfl, ⟨nd, rfl⟩⟩)); go_ret; exact ⟨rE, bE⟩
def target_Check.j0 : Nat → Bool → ByteArray → ByteArray → Int → ByteArray → ByteArray → Option (Bool)
 | 0, _, _, _, _, _, _ => none
 | k + 1, p, a, b, c, e, d => if d.toList = ([] : List UInt8) then ((origin_Check.f k a b c).bind fun g => (if g = true then (if p = true then ((target_show.f k a b c e d).bind fun i => (some (decide ((i.size : Int) ≤ 512)))) else (some false)) else (some false))) else ((strings_HasPrefix.f d (⟨#[63]⟩ : ByteArray)).bind fun j => (if j = true then ((target_all.f k d (⟨#[34, 35, 60, 62]⟩ : ByteArray)).bind fun l => ((origin_Check.f k a b c).bind fun m => (if m = true then (if p = true then (if l = true then ((target_show.f k a b c e d).bind fun n => (some (decide ((n.size : Int) ≤ 512)))) else (some false)) else (some false)) else (some false)))) else ((origin_Check.f k a b c).bind fun o => (if o = true then (if p = true then (some false) else (some false)) else (some false)))))
def target_Check.f (k : Nat) (b c : ByteArray) (d : Int) (a e : ByteArray) : Option (Bool) := (strings_HasPrefix.f a (⟨#[47]⟩ : ByteArray)).bind fun g => (if g = true then ((target_all.f k a (⟨#[34, 35, 60, 62, 63, 92, 94, 123, 124, 125, 96]⟩ : ByteArray)).bind fun i => (if i = true then ((target_Clean.f k a).bind fun j => (target_Check.j0 k (j.toList == a.toList) b c d a e)) else (target_Check.j0 k false b c d a e))) else (target_Check.j0 k false b c d a e))
theorem target_Check.mono_l : ∀ k, (∀ a b c d e g, LeO (target_Check.j0 k a b c d e g) (target_Check.j0 (k + 1) a b c d e g))
 | 0 => fun _ _ _ _ _ _ r h => by simp [target_Check.j0] at h
 | k + 1 => by
  have ih0 := target_Check.mono_l k
  ·intros
   have i := @origin_Check.mono; have j := @target_Clean.mono; have l := @target_all.mono; have m := @target_show.mono; unfold target_Check.j0
   exact moE
theorem target_Check.mono : ∀ a b c d e k, LeO (target_Check.f k a b c d e) (target_Check.f (k + 1) a b c d e) := by
 intro a b c d e k
 have ih0 := target_Check.mono_l k
 have g := @origin_Check.mono; have i := @target_Clean.mono; have j := @target_all.mono; have l := @target_show.mono; unfold target_Check.f
 exact moE
def target_Check.T1 : Bool × List (List Nat × List Nat) := (true, [([], []), ([0], [0]), ([1], [1]), ([2, 2], [2]), ([3], [3]), ([4, 3], [3, 4]), ([5, 3, 3], [3, 5]), ([3, 6], [3, 6]), ([7, 6], [7]), ([8], [8]), ([9, 8], [8, 9]), ([10, 8, 8], [8, 10]), ([8], [8]), ([12, 8], [8, 12]), ([11, 13, 8], [8, 11, 13]), ([8, 14], [8, 14]), ([15, 11, 0, 1, 2, 3, 4, 5, 6, 7, 8, 9, 10, 11, 12, 13, 14, 15], [15])])
def target_Check.B1 : List Nat := [0, 1, 3, 7, 15, 31, 63, 127, 255, 511, 1023, 2047, 511, 4607, 16383, 32767, 65535]
theorem target_Check.tab1 : rtab .any (opsOf Tryz.f117 1) = target_Check.T1 := by kernel_rfl
theorem target_Check.bits1 : waitsOk target_Check.T1.2 target_Check.B1 = true := by kernel_rfl
theorem target_Check.calls (k : Nat) (c d : ByteArray) (g : Int) (b i : ByteArray) (r : Bool) (w : World) (hM_ : Aside0 (LaidW w)) (h : target_Check.f k c d g b i = some r) :
  Calls Tryz.prog 117 #[.agg #[.string c, .string d, .int .i64 g, .string b, .string i]] w fun e w' => e = .returned (.bool r) ∧ Below w.heap.size w w' := by
 have hu72 := Tryz.underlying72; have hu70 := Tryz.underlying70; have HB := Aside0.mk (Below.refl w.heap.size w); have H := h; clear h; unfold target_Check.f at H; have M := Aside0.mk H; clear H; go_enter Tryz.func117, Tryz.ntmps117
 go_upto_region 1 with (first | ((with_reducible refine gate_dst (N := 1) rfl ?_); (try (refine gate_guard (by rfl) ?_; dsimp only)); refine bxE (N := 1) (cs := #[.string c, .string d, .int .i64 g, .string b, .string i]) (t := 72) fun j hg a7 hbox hb => ?_; obtain ⟨HB', a, O⟩ := bx_ bE hg hbox hb; have GE1a1 := O; clear HB hb hbox hg; have HB := HB'; clear HB'))
 (try simp only [Act.put, List.setIfInBounds_toArray, List.set_cons_zero, List.set_cons_succ])
 go_cut [3] (fun a8 wc => ∃ (kq : Nat) (v : Bool), a8 = .bool v ∧ Aside0 (target_Check.j0 kq v c d g b i = some r) ∧ Aside0 (kq ≤ k) ∧ Aside0 (wc.heap[j]? = some (.cells #[.string c, .string d, .int .i64 g, .string b, .string i] 72 (0, 0))) ∧ Aside0 (Below w.heap.size w wc))
 case first =>
  have H := M.out; clear M; replace H := bd_ H; obtain ⟨t1, A2, H⟩ := H; revert H; refine iteB_ (fun c3 H => ?g1p) (fun c3 H => ?g1n)
  case' g1p =>
   subst c3; replace H := bd_ H; obtain ⟨t2, A4, H⟩ := H; revert H; refine iteB_ (fun c5 H => ?g2p) (fun c5 H => ?g2n)
   case' g2p =>
    subst c5; replace H := bd_ H; obtain ⟨t3, A6, H⟩ := H; have H' := Aside0.mk H; clear H; have L := trivial; have a9 := trivial
   case' g2n =>
    subst c5; have H' := Aside0.mk H; clear H; have L := trivial; have aa := trivial
  case' g1n =>
   subst c3; have H' := Aside0.mk H; clear H; have ab := trivial
  all_goals
   try go_wp2
   have n0_ := Aside0.mk (blk_drew a.out); have n1_ := Aside0.mk (below_drew1 HB.out); clear a; clear HB; have a := n0_; have HB := n1_; clear n0_ n1_; refine start_ (n := 17) (S := fun w' => w'.cell? ⟨j, 0, none⟩ = some (.string c) ∧ w'.cell? ⟨j, 1, none⟩ = some (.string d) ∧ w'.cell? ⟨j, 2, none⟩ = some (.int .i64 g) ∧ w'.cell? ⟨j, 3, none⟩ = some (.string b) ∧ w'.cell? ⟨j, 4, none⟩ = some (.string i)) (ds := []) (bz 17 0) (by kernel_rfl) rfl rfl (bkc5_ a) (fun hHeld => ?_); refine with_tabW target_Check.tab1 target_Check.bits1 (fun HT_ HW_ => ?_); generalize a7.drew = w15s1 at a HB hHeld ⊢; refine qA 0 5 17 1 ?_; refine tA5 1 6 17 3 ?_; refine oB 2 7 17 7 fun K hK => ?_; refine gS Tryz.func157 #[.string b, .string ⟨#[47]⟩] ?_
   first
   | clear L
     with_reducible refine (strings_HasPrefix.calls b (⟨#[47]⟩ : ByteArray) true _ A2.out).mono ?_
     rintro e w' ⟨rfl, ⟨nd, rfl⟩⟩; refine ⟨_, rfl, ?_⟩; refine hK.out _ _ (bkc5_ a) (fun hHeld => ?_); clear hK K; refine nA 7 ?_; refine qA 3 8 17 15 ?_; refine qA 4 9 17 31 ?_; refine tA5 5 10 17 63 ?_; refine oB 6 11 17 127 fun K hK => ?_; refine gS Tryz.func92 #[.string b, .string ⟨#[34, 35, 60, 62, 63, 92, 94, 123, 124, 125, 96]⟩] ?_
     first
     | clear a9
       with_reducible refine (target_all.calls k b (⟨#[34, 35, 60, 62, 63, 92, 94, 123, 124, 125, 96]⟩ : ByteArray) true _ A4.out).mono ?_
       rintro e w' ⟨rfl, ⟨nd, rfl⟩⟩; refine ⟨_, rfl, ?_⟩; refine hK.out _ _ (bkc5_ a) (fun hHeld => ?_); clear hK K; refine nA 11 ?_; refine qA 7 12 17 255 ?_; refine qA 8 13 17 511 ?_; refine qA 9 14 17 1023 ?_; refine qA 12 17 17 5119 ?_; refine tA5 10 15 17 6143 ?_; refine tA5 13 18 17 14335 ?_; refine oB 11 16 17 16383 fun K hK => ?_; refine gS Tryz.func93 #[.string b] ?_
       with_reducible refine (target_Clean.calls k b t3 _ A6.out).mono ?_
       rintro e w46s1 ⟨rfl, hb⟩; refine ⟨_, rfl, ?_⟩; replace a := kM a hb; replace HB := bS bE hb; (try clear hb); refine hK.out _ _ (bkc5_ a) (fun hHeld => ?_); clear hK K; refine nA 16 ?_; refine qA 14 19 17 32767 ?_; refine qA 15 20 17 65535 ?_; refine qA 16 3 17 131071 ?_; refine done_ (done_of HT_.out (by kernel_rfl)) ?_
       try go_wp2
       go_meet
       case rel => exact ⟨_, ((t3.toList == b.toList)), rS, H', ⟨oE⟩, ⟨kC a⟩, ⟨bE⟩⟩
     | clear aa
       with_reducible refine (target_all.calls k b (⟨#[34, 35, 60, 62, 63, 92, 94, 123, 124, 125, 96]⟩ : ByteArray) false _ A4.out).mono ?_
       rintro e w' ⟨rfl, ⟨nd, rfl⟩⟩; refine ⟨_, rfl, ?_⟩; refine hK.out _ _ (bkc5_ a) (fun hHeld => ?_); clear hK K; refine nA 11 ?_; refine qA 7 12 17 255 ?_; refine qA 8 13 17 511 ?_; refine qU 9 14 17 1023 ?_; refine qU 10 15 17 2047 ?_; refine qU 11 16 17 4095 ?_; refine qU 12 17 17 8191 ?_; refine qU 13 18 17 16383 ?_; refine qU 14 19 17 32767 ?_; refine qA 15 20 17 65535 ?_; refine qA 16 3 17 131071 ?_; refine done_ (done_of HT_.out (by kernel_rfl)) ?_
       try go_wp2
       go_meet
       case rel => exact ⟨_, (false), rS, H', ⟨oE⟩, ⟨kC a⟩, ⟨bE⟩⟩
   | clear ab
     with_reducible refine (strings_HasPrefix.calls b (⟨#[47]⟩ : ByteArray) false _ A2.out).mono ?_
     rintro e w' ⟨rfl, ⟨nd, rfl⟩⟩; refine ⟨_, rfl, ?_⟩; refine hK.out _ _ (bkc5_ a) (fun hHeld => ?_); clear hK K; refine nA 7 ?_; refine qA 3 8 17 15 ?_; refine qU 4 9 17 31 ?_; refine qU 5 10 17 63 ?_; refine qU 6 11 17 127 ?_; refine qA 7 12 17 255 ?_; refine qA 8 13 17 511 ?_; refine qU 9 14 17 1023 ?_; refine qU 10 15 17 2047 ?_; refine qU 11 16 17 4095 ?_; refine qU 12 17 17 8191 ?_; refine qU 13 18 17 16383 ?_; refine qU 14 19 17 32767 ?_; refine qA 15 20 17 65535 ?_; refine qA 16 3 17 131071 ?_; refine done_ (done_of HT_.out (by kernel_rfl)) ?_
     try go_wp2
     go_meet
     case rel => exact ⟨_, (false), rS, H', ⟨oE⟩, ⟨kC a⟩, ⟨bE⟩⟩
 case rest =>
  clear M; (try clear c3); (try clear c5); obtain ⟨kq, v, rfl, HA, HJ1, a, HB⟩ := hcut
  cases kq with
  | zero => exact absurd HA.out (by simp [target_Check.j0])
  | succ u =>
   have H := HA.out; clear HA
   simp only [target_Check.j0] at H
   revert H; refine iteEF_ (fun ac ad H => ?g5p) (fun c7 ac ad H => ?g5n)
   case' g5p =>
    replace H := bd_ H; obtain ⟨t4, A8, H⟩ := H; revert H; refine iteB_ (fun U H => ?g6p) (fun U H => ?g6n)
    case' g6p =>
     subst U; revert H; refine iteB_ (fun W H => ?g7p) (fun W H => ?g7n)
     case' g7p =>
      subst W; replace H := bd_ H; obtain ⟨t5, X, H⟩ := H; obtain rfl := si_ H; obtain ⟨Y, Z, a0, a1, a2, D, E, G, I, J⟩ := bk5_ a
     case' g7n =>
      subst W; obtain rfl := si_ H; obtain ⟨z11_0, z11_1, z11_2, z11_3, z11_4, zf11_0, zf11_1, zf11_2, zf11_3, zf11_4⟩ := bk5_ a
    case' g6n =>
     subst U; obtain rfl := si_ H; obtain ⟨z10_0, z10_1, z10_2, z10_3, z10_4, zf10_0, zf10_1, zf10_2, zf10_3, zf10_4⟩ := bk5_ a
   case' g5n =>
    replace H := bd_ H; obtain ⟨t4, A8, H⟩ := H; revert H; refine iteB_ (fun U H => ?g8p) (fun U H => ?g8n)
    case' g8p =>
     subst U; replace H := bd_ H; obtain ⟨t5, a3, H⟩ := H; replace H := bd_ H; obtain ⟨t6, X, H⟩ := H; revert H; refine iteB_ (fun l H => ?g9p) (fun l H => ?g9n)
     case' g9p =>
      subst l; revert H; refine iteB_ (fun a4 H => ?g10p) (fun a4 H => ?g10n)
      case' g10p =>
       subst a4; revert H; refine iteB_ (fun a5 H => ?g11p) (fun a5 H => ?g11n)
       case' g11p =>
        subst a5; replace H := bd_ H; obtain ⟨t7, A15, H⟩ := H; obtain rfl := si_ H; obtain ⟨z16_0, z16_1, z16_2, z16_3, z16_4, zf16_0, zf16_1, zf16_2, zf16_3, zf16_4⟩ := bk5_ a
       case' g11n =>
        subst a5; obtain rfl := si_ H; obtain ⟨z15_0, z15_1, z15_2, z15_3, z15_4, zf15_0, zf15_1, zf15_2, zf15_3, zf15_4⟩ := bk5_ a
      case' g10n =>
       subst a4; obtain rfl := si_ H; obtain ⟨z14_0, z14_1, z14_2, z14_3, z14_4, zf14_0, zf14_1, zf14_2, zf14_3, zf14_4⟩ := bk5_ a
     case' g9n =>
      subst l; obtain rfl := si_ H; obtain ⟨x, y, z, A, B, m, o, p, q, s⟩ := bk5_ a
    case' g8n =>
     subst U; replace H := bd_ H; obtain ⟨t5, a3, H⟩ := H; revert H; refine iteB_ (fun a6 H => ?g12p) (fun a6 H => ?g12n)
     case' g12p =>
      subst a6; revert H; refine iteB_ (fun l H => ?g13p) (fun l H => ?g13n)
      case' g13p =>
       subst l; obtain rfl := si_ H; obtain ⟨x, y, z, A, B, m, o, p, q, s⟩ := bk5_ a
      case' g13n =>
       subst l; obtain rfl := si_ H; obtain ⟨x, y, z, A, B, m, o, p, q, s⟩ := bk5_ a
     case' g12n =>
      subst a6; obtain rfl := si_ H; obtain ⟨Y, Z, a0, a1, a2, D, E, G, I, J⟩ := bk5_ a
   all_goals
    go_wp2_with (first | ((with_reducible refine gate_callee (f := 98) rfl ?_); refine gL _ Tryz.func98 _ ((origin_Check.calls u c d g _ _ A8.out).mono ?_); rintro e w2a1 ⟨rfl, hb⟩; refine ⟨_, rfl, ?_⟩; replace a := kM a hb; replace HB := bS bE hb; (try clear hb); obtain ⟨z2a2_0, z2a2_1, z2a2_2, z2a2_3, z2a2_4, ae, af, ag, ah, ai⟩ := bk5_ a) | (go_at_call 94; (with_reducible refine (target_show.calls u c d g b i _ _ ?side1 X.out).mono ?_); (case side1 => exact ⟨lE⟩); rintro e w3a1 ⟨rfl, hb⟩; replace a := kM a hb; replace HB := bS bE hb; (try clear hb)) | (go_at_call 157; (with_reducible refine (strings_HasPrefix.calls i (⟨#[63]⟩ : ByteArray) _ _ A8.out).mono ?_); rintro e w' ⟨rfl, ⟨nd, rfl⟩⟩) | (go_at_call 92; (with_reducible refine (target_all.calls u i (⟨#[34, 35, 60, 62]⟩ : ByteArray) _ _ a3.out).mono ?_); rintro e w' ⟨rfl, ⟨nd, rfl⟩⟩) | ((with_reducible refine gate_callee (f := 98) rfl ?_); refine gL _ Tryz.func98 _ ((origin_Check.calls u c d g _ _ X.out).mono ?_); rintro e w6a1 ⟨rfl, hb⟩; refine ⟨_, rfl, ?_⟩; replace a := kM a hb; replace HB := bS bE hb; (try clear hb); obtain ⟨z6a2_0, z6a2_1, z6a2_2, z6a2_3, z6a2_4, aj, ak, al, am, an⟩ := bk5_ a) | (go_at_call 94; (with_reducible refine (target_show.calls u c d g b i _ _ ?side1 A15.out).mono ?_); (case side1 => exact ⟨lE⟩); rintro e w7a1 ⟨rfl, hb⟩; replace a := kM a hb; replace HB := bS bE hb; (try clear hb)) | ((with_reducible refine gate_callee (f := 98) rfl ?_); refine gL _ Tryz.func98 _ ((origin_Check.calls u c d g _ _ a3.out).mono ?_); rintro e w8a1 ⟨rfl, hb⟩; refine ⟨_, rfl, ?_⟩; replace a := kM a hb; replace HB := bS bE hb; (try clear hb))); go_ret; exact ⟨rE, bE⟩
def target_Show.f (k : Nat) (a b : ByteArray) (c : Int) (d e : ByteArray) : Option (ByteArray) := (target_Check.f k a b c d e).bind fun g => (if g = true then ((target_show.f k a b c d e).bind fun i => (some i)) else (some (⟨#[]⟩ : ByteArray)))
theorem target_Show.mono : ∀ a b c d e k, LeO (target_Show.f k a b c d e) (target_Show.f (k + 1) a b c d e) := by
 intro a b c d e k
 have g := @target_Check.mono; have i := @target_show.mono; unfold target_Show.f
 exact moE
theorem target_Show.calls (k : Nat) (b c : ByteArray) (d : Int) (g i r : ByteArray) (w : World) (hM_ : Aside0 (LaidW w)) (h : target_Show.f k b c d g i = some r) :
  Calls Tryz.prog 58 #[.agg #[.string b, .string c, .int .i64 d, .string g, .string i]] w fun e w' => e = .returned (.string r) ∧ Below w.heap.size w w' := by
 have U := Tryz.underlying72; have HB := Aside0.mk (Below.refl w.heap.size w); have H := h; clear h; unfold target_Show.f at H; replace H := bd_ H; obtain ⟨t1, Z, H⟩ := H; revert H; refine iteB_ (fun L H => ?g1p) (fun L H => ?g1n)
 case' g1p =>
  subst L; replace H := bd_ H; obtain ⟨t2, A3, H⟩ := H; obtain rfl := si_ H
 case' g1n =>
  subst L; obtain rfl := si_ H
 all_goals
  go_enter Tryz.func58, Tryz.ntmps58; go_wp2_with (first | ((with_reducible refine gate_dst (N := 1) rfl ?_); refine bxE (N := 1) (cs := #[.string b, .string c, .int .i64 d, .string g, .string i]) (t := 72) fun M hg W hbox hb => ?_; obtain ⟨HB', a, j⟩ := bx_ bE hg hbox hb; have O := j; clear HB hb hbox hg; have HB := HB'; clear HB'; obtain ⟨y, z, A, B, D, l, m, n, o, p⟩ := bk5_ a) | ((with_reducible refine gate_callee (f := 117) rfl ?_); refine gL _ Tryz.func117 _ ((target_Check.calls k b c d g i _ _ ?side1 Z.out).mono ?_); (case side1 => exact ⟨lE⟩); rintro e X ⟨rfl, hb⟩; refine ⟨_, rfl, ?_⟩; replace a := kM a hb; replace HB := bS bE hb; (try clear hb); obtain ⟨E, G, I, J, K, q, s, u, v, x⟩ := bk5_ a) | ((with_reducible refine gate_callee (f := 94) rfl ?_); refine gL _ Tryz.func94 _ ((target_show.calls k b c d g i _ _ ?side1 A3.out).mono ?_); (case side1 => exact ⟨lE⟩); rintro e Y ⟨rfl, hb⟩; refine ⟨_, rfl, ?_⟩; replace a := kM a hb; replace HB := bS bE hb; (try clear hb))); go_ret; exact ⟨rE, bE⟩
end Go.Proofs.YtfmajangcbgooaaGreatDoor.Pr

