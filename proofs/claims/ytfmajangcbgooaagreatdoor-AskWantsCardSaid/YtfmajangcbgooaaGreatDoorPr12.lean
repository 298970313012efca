import Derived.Test.YtfmajangcbgooaaGreatDoorPr0
import Derived.Test.YtfmajangcbgooaaGreatDoorK0
import Derived.Test.YtfmajangcbgooaaGreatDoorPr4
import Derived.Test.YtfmajangcbgooaaGreatDoorPr9
import Derived.Test.YtfmajangcbgooaaGreatDoorPr11
import Derived.Test.YtfmajangcbgooaaGreatDoorG5
namespace Go.Proofs.YtfmajangcbgooaaGreatDoor.Pr
open Go.RowKit Go.Proofs.YtfmajangcbgooaaGreatDoorW.PrintWords Go.Proofs.YtfmajangcbgooaaGreatDoorW.PrintLast Go.Proofs.YtfmajangcbgooaaGreatDoorW.PrintMore
attribute [local go_sem] max2_int min2_int max_two min_two max_three min_three max_four min_four
set_option linter.unusedVariables false
set_option maxHeartbeats 64000000
set_option maxRecDepth 100000
set_option linter.unusedSimpArgs false
def lockkeeperlaw8_awake.f (k : Nat)  : Option (Bool) := (ask_Check.f k (⟨#[80, 85, 84]⟩ : ByteArray) (⟨#[104, 116, 116, 112, 58, 47, 47, 98, 47]⟩ : ByteArray) (⟨#[104, 116, 116, 112, 58, 47, 47, 97]⟩ : ByteArray) 3 false ([] : List (S28)) 1 0 0 0).bind fun a => (if a = 0 then ((ask_Needs.f k (⟨#[80, 85, 84]⟩ : ByteArray) (⟨#[104, 116, 116, 112, 58, 47, 47, 98, 47]⟩ : ByteArray) (⟨#[104, 116, 116, 112, 58, 47, 47, 97]⟩ : ByteArray) 3 false ([] : List (S28)) 1 0 0 0).bind fun b => (if b = true then ((ask_Cross.f k (⟨#[80, 85, 84]⟩ : ByteArray) (⟨#[104, 116, 116, 112, 58, 47, 47, 98, 47]⟩ : ByteArray) (⟨#[104, 116, 116, 112, 58, 47, 47, 97]⟩ : ByteArray) 3 false ([] : List (S28)) 1 0 0 0).bind fun c => (if c = true then ((ask_Key.f k (⟨#[80, 85, 84]⟩ : ByteArray) (⟨#[104, 116, 116, 112, 58, 47, 47, 98, 47]⟩ : ByteArray) (⟨#[104, 116, 116, 112, 58, 47, 47, 97]⟩ : ByteArray) 3 false ([] : List (S28)) 1 0 0 0).bind fun d => (if d.toList = ([104, 116, 116, 112, 58, 47, 47, 98, 58, 56, 48] : List UInt8) then ((ask_Check.f k (⟨#[80, 85, 84]⟩ : ByteArray) (⟨#[104, 116, 116, 112, 58, 47, 47, 98, 47]⟩ : ByteArray) (⟨#[104, 116, 116, 112, 58, 47, 47, 97]⟩ : ByteArray) 2 false ([] : List (S28)) 1 0 0 0).bind fun e => (some (e == 7))) else (some false))) else (some false))) else (some false))) else (some false))
theorem lockkeeperlaw8_awake.mono : ∀ k, LeO (lockkeeperlaw8_awake.f k ) (lockkeeperlaw8_awake.f (k + 1) ) := by
 intro  k
 have a := @ask_Check.mono; have b := @ask_Cross.mono; have c := @ask_Key.mono; have d := @ask_Needs.mono; unfold lockkeeperlaw8_awake.f
 exact moE
theorem lockkeeperlaw8_awake.calls (k : Nat) (r : Bool) (w : World) (hM_ : Aside0 (LaidW w)) (h : lockkeeperlaw8_awake.f k  = some r) :
  Calls Tryz.prog 15 #[] w fun e w' => e = .returned (.bool r) ∧ Below w.heap.size w w' := by
 have hu26 := Tryz.underlying26; have HB := Aside0.mk (Below.refl w.heap.size w); have H := h; clear h; unfold lockkeeperlaw8_awake.f at H; replace H := bd_ H; obtain ⟨t1, A1, H⟩ := H; revert H; refine iteEF_ (fun m n H => ?g1p) (fun c2 m n H => ?g1n)
 case' g1p =>
  replace H := bd_ H; obtain ⟨t2, A3, H⟩ := H; revert H; refine iteB_ (fun c4 H => ?g2p) (fun c4 H => ?g2n)
  case' g2p =>
   subst c4; replace H := bd_ H; obtain ⟨t3, A5, H⟩ := H; revert H; refine iteB_ (fun c6 H => ?g3p) (fun c6 H => ?g3n)
   case' g3p =>
    subst c6; replace H := bd_ H; obtain ⟨t4, A7, H⟩ := H; revert H; refine iteEF_ (fun p q H => ?g4p) (fun c8 p q H => ?g4n)
    case' g4p =>
     replace H := bd_ H; obtain ⟨t5, A9, H⟩ := H; obtain rfl := si_ H
    case' g4n =>
     obtain rfl := si_ H
   case' g3n =>
    subst c6; obtain rfl := si_ H
  case' g2n =>
   subst c4; obtain rfl := si_ H
 case' g1n =>
  obtain rfl := si_ H
 all_goals
  go_enter Tryz.func15, Tryz.ntmps15; go_wp2_with (first | ((with_reducible refine gate_dst (N := 1) rfl ?_); refine bxE (N := 1) (cs := #[.string ⟨#[]⟩, .string ⟨#[]⟩, .string ⟨#[]⟩, .int .i64 0, .bool false, .slice none 0 0, .int .i64 0, .int .u64 0, .int .i64 0, .int .i64 0]) (t := 26) fun c hg w1a2 hbox hb => ?_; obtain ⟨HB', a, l⟩ := bx_ bE hg hbox hb; have GE1a1 := l; clear HB hb hbox hg; have HB := HB'; clear HB'; obtain ⟨aP, aQ, aR, aS, aT, aU, aV, aW, aX, aY, s, u, v, x, y, z, A, B, D, E⟩ := bk10_ a) | ((with_reducible refine gate_dst (N := 2) rfl ?_); refine bxE (N := 2) (cs := #[.string ⟨#[]⟩, .string ⟨#[]⟩, .string ⟨#[]⟩, .int .i64 0, .bool false, .slice none 0 0, .int .i64 0, .int .u64 0, .int .i64 0, .int .i64 0]) (t := 26) fun d hg w2a2 hbox hb => ?_; have n0_ := Aside0.mk (blk_below (g := c) (o := .cells #[.string ⟨#[80, 85, 84]⟩, .string ⟨#[104, 116, 116, 112, 58, 47, 47, 98, 47]⟩, .string ⟨#[104, 116, 116, 112, 58, 47, 47, 97]⟩, .int .i64 3, .bool false, .slice none 0 0, .int .i64 1, .int .u64 0, .int .i64 0, .int .i64 0] 26 (0, 0)) (kT) hb); have n1_ := bS bE hb; have n2_ := Aside0.mk (hbox); have n3_ := sE (w := w) hg; have n4_ := sE (w := w) hg; have n5_ := Aside0.mk ((by rw [hg]; exact Nat.ne_of_lt (blk_lt (g := c) (o := .cells #[.string ⟨#[80, 85, 84]⟩, .string ⟨#[104, 116, 116, 112, 58, 47, 47, 98, 47]⟩, .string ⟨#[104, 116, 116, 112, 58, 47, 47, 97]⟩, .int .i64 3, .bool false, .slice none 0 0, .int .i64 1, .int .u64 0, .int .i64 0, .int .i64 0] 26 (0, 0)) (kT)) : c ≠ d)); have n6_ := Aside0.mk ((by rw [hg]; exact Nat.ne_of_gt (blk_lt (g := c) (o := .cells #[.string ⟨#[80, 85, 84]⟩, .string ⟨#[104, 116, 116, 112, 58, 47, 47, 98, 47]⟩, .string ⟨#[104, 116, 116, 112, 58, 47, 47, 97]⟩, .int .i64 3, .bool false, .slice none 0 0, .int .i64 1, .int .u64 0, .int .i64 0, .int .i64 0] 26 (0, 0)) (kT)) : d ≠ c)); clear a; clear HB; have a := n0_; have HB := n1_; have b := n2_; have GW2a1 := n3_; have GE2a1 := n4_; have i := n5_; have j := n6_; clear n0_ n1_ n2_ n3_ n4_ n5_ n6_; clear hb hbox hg; have aZ := j.out; have a_ := i.out; obtain ⟨b0, b1, b2, b3, b4, b5, b6, b7, b8, b9, G, I, J, K, L, M, O, U, W, X⟩ := bk10_ b; obtain ⟨ba, bb, bc, be, bf, bg, bh, bi, bj, bk, Y, Z, a0, a1, a2, a3, a4, a5, a6, a7⟩ := bk10_ a) | ((with_reducible refine gate_callee (f := 13) rfl ?_); refine gL (some 7) Tryz.func13 #[.agg #[.string ⟨#[80, 85, 84]⟩, .string ⟨#[104, 116, 116, 112, 58, 47, 47, 98, 47]⟩, .string ⟨#[104, 116, 116, 112, 58, 47, 47, 97]⟩, .int .i64 3, .bool false, .slice none 0 0, .int .i64 1, .int .u64 0, .int .i64 0, .int .i64 0]] ?_; (refine (ask_Check.calls k (⟨#[80, 85, 84]⟩ : ByteArray) (⟨#[104, 116, 116, 112, 58, 47, 47, 98, 47]⟩ : ByteArray) (⟨#[104, 116, 116, 112, 58, 47, 47, 97]⟩ : ByteArray) 3 false _ _ ([] : List (S28)) 1 0 0 0 t1 _ ?side1 ?side2 ?side3 A1.out).mono ?_); (case side1 => exact Kd.C_nil _ _); (case side2 => exact Nat.le_refl _); (case side3 => exact ⟨lE⟩); rintro e w3a1 ⟨rfl, hb⟩; refine ⟨_, rfl, ?_⟩; have n0_ := kF a hb; have n1_ := Aside0.mk (blk_below (g := d) (o := .cells #[.string ⟨#[80, 85, 84]⟩, .string ⟨#[104, 116, 116, 112, 58, 47, 47, 98, 47]⟩, .string ⟨#[104, 116, 116, 112, 58, 47, 47, 97]⟩, .int .i64 2, .bool false, .slice none 0 0, .int .i64 1, .int .u64 0, .int .i64 0, .int .i64 0] 26 (0, 0)) (kT) hb); have n2_ := bS bE hb; clear a; clear b; clear HB; have a := n0_; have b := n1_; have HB := n2_; clear n0_ n1_ n2_; (try clear hb); (try clear hb2); (try clear hk); (try clear hi); obtain ⟨bl, bm, bn, bo, bp, bq, br, bs, bu, bv, a8, a9, aa, ab, ac, ad, ae, af, ag, ah⟩ := bk10_ a) | (go_at_call 14; (refine (ask_Needs.calls k (⟨#[80, 85, 84]⟩ : ByteArray) (⟨#[104, 116, 116, 112, 58, 47, 47, 98, 47]⟩ : ByteArray) (⟨#[104, 116, 116, 112, 58, 47, 47, 97]⟩ : ByteArray) 3 false _ _ ([] : List (S28)) 1 0 0 0 true _ ?side1 ?side2 ?side3 A3.out).mono ?_); (case side1 => exact Kd.C_nil _ _); (case side2 => exact Nat.le_refl _); (case side3 => exact ⟨lE⟩); rintro e w4a1 ⟨rfl, hb⟩; replace a := kM a hb; replace b := kM b hb; replace HB := bS bE hb; (try clear hb); obtain ⟨bw, bx, bB, bC, bF, bG, bH, bI, bJ, bK, ai, aj, ak, al, am, an, ao, ap, aq, ar⟩ := bk10_ a) | (go_at_call 16; (refine (ask_Cross.calls k (⟨#[80, 85, 84]⟩ : ByteArray) (⟨#[104, 116, 116, 112, 58, 47, 47, 98, 47]⟩ : ByteArray) (⟨#[104, 116, 116, 112, 58, 47, 47, 97]⟩ : ByteArray) 3 false _ _ ([] : List (S28)) 1 0 0 0 true _ ?side1 ?side2 ?side3 A5.out).mono ?_); (case side1 => exact Kd.C_nil _ _); (case side2 => exact Nat.le_refl _); (case side3 => exact ⟨lE⟩); rintro e w5a1 ⟨rfl, hb⟩; replace a := kM a hb; replace b := kM b hb; replace HB := bS bE hb; (try clear hb); obtain ⟨bL, bM, bO, bP, bQ, bR, bT, bU, bV, bX, au, av, aw, ax, ay, az, aA, aB, aC, aD⟩ := bk10_ a) | (go_at_call 27; (refine (ask_Key.calls k (⟨#[80, 85, 84]⟩ : ByteArray) (⟨#[104, 116, 116, 112, 58, 47, 47, 98, 47]⟩ : ByteArray) (⟨#[104, 116, 116, 112, 58, 47, 47, 97]⟩ : ByteArray) 3 false _ _ ([] : List (S28)) 1 0 0 0 t4 _ ?side1 ?side2 ?side3 A7.out).mono ?_); (case side1 => exact Kd.C_nil _ _); (case side2 => exact Nat.le_refl _); (case side3 => exact ⟨lE⟩); rintro e w6a1 ⟨rfl, hb⟩; replace a := kM a hb; replace b := kM b hb; replace HB := bS bE hb; (try clear hb); obtain ⟨bY, bZ, b_, c0, c1, c3, c5, c7, c9, ca, aE, aF, aG, aH, aI, aJ, aK, aL, aN, aO⟩ := bk10_ b) | (go_at_call 13; (refine (ask_Check.calls k (⟨#[80, 85, 84]⟩ : ByteArray) (⟨#[104, 116, 116, 112, 58, 47, 47, 98, 47]⟩ : ByteArray) (⟨#[104, 116, 116, 112, 58, 47, 47, 97]⟩ : ByteArray) 2 false _ _ ([] : List (S28)) 1 0 0 0 t5 _ ?side1 ?side2 ?side3 A9.out).mono ?_); (case side1 => exact Kd.C_nil _ _); (case side2 => exact Nat.le_refl _); (case side3 => exact ⟨lE⟩); rintro e w7a1 ⟨rfl, hb⟩; replace a := kM a hb; replace b := kM b hb; replace HB := bS bE hb; (try clear hb)) | (go_at_call 16; (refine (ask_Cross.calls k (⟨#[80, 85, 84]⟩ : ByteArray) (⟨#[104, 116, 116, 112, 58, 47, 47, 98, 47]⟩ : ByteArray) (⟨#[104, 116, 116, 112, 58, 47, 47, 97]⟩ : ByteArray) 3 false _ _ ([] : List (S28)) 1 0 0 0 false _ ?side1 ?side2 ?side3 A5.out).mono ?_); (case side1 => exact Kd.C_nil _ _); (case side2 => exact Nat.le_refl _); (case side3 => exact ⟨lE⟩); rintro e w8a1 ⟨rfl, hb⟩; replace a := kM a hb; replace b := kM b hb; replace HB := bS bE hb; (try clear hb)) | (go_at_call 14; (refine (ask_Needs.calls k (⟨#[80, 85, 84]⟩ : ByteArray) (⟨#[104, 116, 116, 112, 58, 47, 47, 98, 47]⟩ : ByteArray) (⟨#[104, 116, 116, 112, 58, 47, 47, 97]⟩ : ByteArray) 3 false _ _ ([] : List (S28)) 1 0 0 0 false _ ?side1 ?side2 ?side3 A3.out).mono ?_); (case side1 => exact Kd.C_nil _ _); (case side2 => exact Nat.le_refl _); (case side3 => exact ⟨lE⟩); rintro e w9a1 ⟨rfl, hb⟩; replace a := kM a hb; replace b := kM b hb; replace HB := bS bE hb; (try clear hb))); go_ret; exact ⟨rE, bE⟩
def lockkeeperlaw0_GreatHeaders.l0 : Nat → List (S28) → Int → Int → Option (Bool)
 | 0, _, _, _ => none
 | k + 1, b, c, a => if a < (b.length : Int) then (if 0 ≤ a then (if (((rd_T28 b a).f0).size : Int) > 100 then (some true) else (if (((rd_T28 b a).f1).size : Int) > 5000 then (some true) else (lockkeeperlaw0_GreatHeaders.l0 k b (wrap64 (c + (((rd_T28 b a).f1).size : Int))) (wrap64 (a + 1))))) else (none)) else (some (decide (c > 12000)))
def lockkeeperlaw0_GreatHeaders.f (k : Nat) (l0 : List (S28)) : Option (Bool) := if (l0.length : Int) > 40 then (some true) else (lockkeeperlaw0_GreatHeaders.l0 k l0 0 0)
theorem lockkeeperlaw0_GreatHeaders.mono_l : ∀ k, (∀ a b c, LeO (lockkeeperlaw0_GreatHeaders.l0 k a b c) (lockkeeperlaw0_GreatHeaders.l0 (k + 1) a b c))
 | 0 => fun _ _ _ r h => by simp [lockkeeperlaw0_GreatHeaders.l0] at h
 | k + 1 => by
  have ih0 := lockkeeperlaw0_GreatHeaders.mono_l k
  ·intros
   unfold lockkeeperlaw0_GreatHeaders.l0
   exact moE
theorem lockkeeperlaw0_GreatHeaders.mono : ∀ a k, LeO (lockkeeperlaw0_GreatHeaders.f k a) (lockkeeperlaw0_GreatHeaders.f (k + 1) a) := by
 intro a k
 have ih0 := lockkeeperlaw0_GreatHeaders.mono_l k
 unfold lockkeeperlaw0_GreatHeaders.f
 exact moE
theorem lockkeeperlaw0_GreatHeaders.calls (k : Nat) (A0 : Option Addr) (c0 : Nat) (l0 : List (S28)) (r : Bool) (w : World) (x : Kd.C k28 w A0 l0.length l0) (y : l0.length ≤ c0) (h : lockkeeperlaw0_GreatHeaders.f k l0 = some r) :
  Calls Tryz.prog 33 #[.slice A0 l0.length c0] w fun e w' => e = .returned (.bool r) ∧ Drawn0 w w' := by
 have c := Aside0.mk x; have HC1 := Aside0.mk y; clear x y; have H := h; clear h; unfold lockkeeperlaw0_GreatHeaders.f at H; revert H; refine itePP_ (fun v H => ?g1p) (fun v H => ?g1n)
 case' g1p =>
  have i : decide (40 < (l0.length : Int)) = true := decide_eq_true v; have j : decide (40 < l0.length) = true := decide_eq_true (by omega); clear v; obtain rfl := si_ H; have z := trivial
 case' g1n =>
  have i : decide (40 < (l0.length : Int)) = false := decide_eq_false v; have j : decide (40 < l0.length) = false := decide_eq_false (by omega); clear v; have H' := Aside0.mk H; clear H; have A := trivial
 all_goals
  go_enter Tryz.func33, Tryz.ntmps33; go_wp2
  first
  | clear z
    go_ret; exact ⟨rS, dE⟩
  | clear A
    go_loopg [3, 4] k (fun kq B D w' => ∃ (b : Int) (a : Int), B = .int .i64 b ∧ D = .int .i64 a ∧ Aside0 (lockkeeperlaw0_GreatHeaders.l0 kq l0 b a = some r) ∧ Aside0 (kq ≤ k) ∧ Drawn0 w w')
    case atStart => exact ⟨(0), (0), rS, rS, H', ⟨Nat.le_refl _⟩, dE⟩
    case round =>
     clear H'; (try clear v); (try clear i); (try clear j); obtain ⟨b, a, rfl, rfl, HA, E, ⟨m1, rfl⟩⟩ := hrel
     cases gk with
     | zero => exact absurd HA.out (by simp [lockkeeperlaw0_GreatHeaders.l0])
     | succ k1 =>
      have H := HA.out; clear HA
      simp only [lockkeeperlaw0_GreatHeaders.l0] at H
      revert H; refine iteDD_ (fun G H => ?g3p) (fun G H => ?g3n)
      case' g3p =>
       revert H; refine iteND_ fun c4b0 => itePP_ (fun I H => ?g4p) (fun I H => ?g4n)
       case' g4p =>
        have J : decide (100 < (((rd_T28 l0 a).f0).size : Int)) = true := decide_eq_true I; have K : decide (100 < ((rd_T28 l0 a).f0).size) = true := decide_eq_true (by omega); clear I; obtain rfl := si_ H; have X : 0 ≤ (a : Int) := of_decide_eq_true mE; have Y : a < (l0.length : Int) := of_decide_eq_true mE; obtain ⟨ad6, L, Z, a0⟩ := at_T28 c.out a X Y
        cases L
        replace X := eq_true X; replace Y := eq_true Y; have d := trivial
       case' g4n =>
        have J : decide (100 < (((rd_T28 l0 a).f0).size : Int)) = false := decide_eq_false I; have K : decide (100 < ((rd_T28 l0 a).f0).size) = false := decide_eq_false (by omega); clear I; revert H; refine itePP_ (fun M H => ?g5p) (fun M H => ?g5n)
        case' g5p =>
         have O : decide (5000 < (((rd_T28 l0 a).f1).size : Int)) = true := decide_eq_true M; have U : decide (5000 < ((rd_T28 l0 a).f1).size) = true := decide_eq_true (by omega); clear M; obtain rfl := si_ H; have l : 0 ≤ (a : Int) := of_decide_eq_true mE; have m : a < (l0.length : Int) := of_decide_eq_true mE; obtain ⟨g, L, n, o⟩ := at_T28 c.out a l m
         cases L
         replace l := eq_true l; replace m := eq_true m; have p : 0 ≤ (a : Int) := of_decide_eq_true mE; have q : a < (l0.length : Int) := of_decide_eq_true mE; obtain ⟨s, e2, t, u⟩ := at_T28 c.out a p q; obtain rfl : g = s := (by injection e2); replace p := eq_true p; replace q := eq_true q; have d := trivial
        case' g5n =>
         have O : decide (5000 < (((rd_T28 l0 a).f1).size : Int)) = false := decide_eq_false M; have U : decide (5000 < ((rd_T28 l0 a).f1).size) = false := decide_eq_false (by omega); clear M; have H' := Aside0.mk H; clear H; have l : 0 ≤ (a : Int) := of_decide_eq_true mE; have m : a < (l0.length : Int) := of_decide_eq_true mE; obtain ⟨g, L, n, o⟩ := at_T28 c.out a l m
         cases L
         replace l := eq_true l; replace m := eq_true m; have p : 0 ≤ (a : Int) := of_decide_eq_true mE; have q : a < (l0.length : Int) := of_decide_eq_true mE; obtain ⟨s, e2, t, u⟩ := at_T28 c.out a p q; obtain rfl : g = s := (by injection e2); replace p := eq_true p; replace q := eq_true q; have p9 : 0 ≤ (a : Int) := of_decide_eq_true mE; have q9 : a < (l0.length : Int) := of_decide_eq_true mE; obtain ⟨ad9, e3, hx9_0, hx9_1⟩ := at_T28 c.out a p9 q9; obtain rfl : g = ad9 := (by injection e3); replace p9 := eq_true p9; replace q9 := eq_true q9; have W := trivial
      case' g3n =>
       obtain rfl := si_ H; have d := trivial
      all_goals
       go_wp2
       first
       | clear d
         go_ret; exact ⟨rS, dE⟩
       | clear W
         go_roundg k1
         case measure => have := E.out; omega
         case rel => exact ⟨(wrap64 (b + (((rd_T28 l0 a).f1).size : Int))), (wrap64 (a + 1)), rS, rS, H', ⟨by have := E.out; omega⟩, dE⟩
def lockkeeperlaw0_GreatReq.f (k : Nat) (a b c : ByteArray) (g : Int) (i : Bool) (d : List (S28)) (j l m n : Int) : Option (Bool) := if (a.size : Int) > 60 then (some true) else (if (b.size : Int) > 700 then (some true) else (if (c.size : Int) > 700 then (some true) else ((lockkeeperlaw0_GreatHeaders.f k d).bind fun e => (some e))))
theorem lockkeeperlaw0_GreatReq.mono : ∀ a b c d e g i j l m k, LeO (lockkeeperlaw0_GreatReq.f k a b c d e g i j l m) (lockkeeperlaw0_GreatReq.f (k + 1) a b c d e g i j l m) := by
 intro a b c d e g i j l m k
 have n := @lockkeeperlaw0_GreatHeaders.mono; unfold lockkeeperlaw0_GreatReq.f
 exact moE
theorem lockkeeperlaw0_GreatReq.calls (k : Nat) (a b c : ByteArray) (g : Int) (i : Bool) (j : Option Addr) (l : Nat) (d : List (S28)) (m n o p : Int) (r : Bool) (w : World) (q : Kd.C k28 w j d.length d) (s : d.length ≤ l) (h : lockkeeperlaw0_GreatReq.f k a b c g i d m n o p = some r) :
  Calls Tryz.prog 17 #[.agg #[.string a, .string b, .string c, .int .i64 g, .bool i, .slice j d.length l, .int .i64 m, .int .u64 n, .int .i64 o, .int .i64 p]] w fun e w' => e = .returned (.bool r) ∧ Below w.heap.size w w' := by
 have ae := Tryz.underlying26; have ab := Aside0.mk q; have u := Aside0.mk s; clear q s; have HB := Aside0.mk (Below.refl w.heap.size w); have H := h; clear h; unfold lockkeeperlaw0_GreatReq.f at H; revert H; refine itePP_ (fun y H => ?g1p) (fun y H => ?g1n)
 case' g1p =>
  have z : decide (60 < (a.size : Int)) = true := decide_eq_true y; have A : decide (60 < a.size) = true := decide_eq_true (by omega); clear y; obtain rfl := si_ H
 case' g1n =>
  have z : decide (60 < (a.size : Int)) = false := decide_eq_false y; have A : decide (60 < a.size) = false := decide_eq_false (by omega); clear y; revert H; refine itePP_ (fun B H => ?g2p) (fun B H => ?g2n)
  case' g2p =>
   have D : decide (700 < (b.size : Int)) = true := decide_eq_true B; have E : decide (700 < b.size) = true := decide_eq_true (by omega); clear B; obtain rfl := si_ H
  case' g2n =>
   have D : decide (700 < (b.size : Int)) = false := decide_eq_false B; have E : decide (700 < b.size) = false := decide_eq_false (by omega); clear B; revert H; refine itePP_ (fun G H => ?g3p) (fun G H => ?g3n)
   case' g3p =>
    have I : decide (700 < (c.size : Int)) = true := decide_eq_true G; have J : decide (700 < c.size) = true := decide_eq_true (by omega); clear G; obtain rfl := si_ H
   case' g3n =>
    have I : decide (700 < (c.size : Int)) = false := decide_eq_false G; have J : decide (700 < c.size) = false := decide_eq_false (by omega); clear G; replace H := bd_ H; obtain ⟨t1, A5, H⟩ := H; obtain rfl := si_ H
 all_goals
  go_enter Tryz.func17, Tryz.ntmps17; go_wp2_with (first | ((with_reducible refine gate_dst (N := 1) rfl ?_); (try (refine gate_guard (by rfl) ?_; dsimp only)); refine bxE (N := 1) (cs := #[.string a, .string b, .string c, .int .i64 g, .bool i, .slice j d.length l, .int .i64 m, .int .u64 n, .int .i64 o, .int .i64 p]) (t := 26) fun ac hg af hbox hb => ?_; obtain ⟨HB', v, x⟩ := bx_ bE hg hbox hb; have ad := x; clear HB hb hbox hg; have HB := HB'; clear HB'; obtain ⟨a1, a2, a3, a4, a5, a6, a7, a8, a9, aa, K, L, M, O, U, W, X, Y, Z, a0⟩ := bk10_ v) | (go_at_call 33; (with_reducible refine (lockkeeperlaw0_GreatHeaders.calls k _ _ d t1 _ ?side1 ?side2 A5.out).mono ?_); (case side1 => exact cE); (case side2 => exact u.out); rintro e w' ⟨rfl, ⟨nd, rfl⟩⟩)); go_ret; exact ⟨rE, bE⟩
def method_Norm.f (k : Nat) (b : ByteArray) : Option (ByteArray) := (method_known.f k b).bind fun a => (if a.toList = ([] : List UInt8) then (some b) else (some a))
theorem method_Norm.mono : ∀ a k, LeO (method_Norm.f k a) (method_Norm.f (k + 1) a) := by
 intro a k
 have b := @method_known.mono; unfold method_Norm.f
 exact moE
theorem method_Norm.calls (k : Nat) (c r : ByteArray) (w : World) (h : method_Norm.f k c = some r) :
  Calls Tryz.prog 57 #[.string c] w fun e w' => e = .returned (.string r) ∧ Below w.heap.size w w' := by
 have HB := Aside0.mk (Below.refl w.heap.size w); have H := h; clear h; unfold method_Norm.f at H; replace H := bd_ H; obtain ⟨i, g, H⟩ := H; revert H; refine iteEF_ (fun a b H => ?g1p) (fun j a b H => ?g1n)
 case' g1p =>
  obtain rfl := si_ H
 case' g1n =>
  obtain rfl := si_ H
 all_goals
  go_enter Tryz.func57, Tryz.ntmps57; go_wp2_with (first | ((with_reducible refine gate_callee (f := 76) rfl ?_); refine gL _ Tryz.func76 _ ((method_known.calls k c _ _ g.out).mono ?_); rintro e d ⟨rfl, hb⟩; refine ⟨_, rfl, ?_⟩; replace HB := bS bE hb; (try clear hb))); go_ret; exact ⟨rE, bE⟩
def strings_HasPrefix.f (b c : ByteArray) : Option (Bool) := (stringslite_HasPrefix.f b c).bind fun a => (some a)
theorem strings_HasPrefix.calls (a b : ByteArray) (r : Bool) (w : World) (h : strings_HasPrefix.f a b = some r) :
  Calls Tryz.prog 157 #[.string a, .string b] w fun e w' => e = .returned (.bool r) ∧ Drawn0 w w' := by
 have H : ((stringslite_HasPrefix.f a b).bind fun c => (some c)) = some r := h; clear h; replace H := bd_ H; obtain ⟨c, d, H⟩ := H; obtain rfl := si_ H; go_enter Tryz.func157, Tryz.ntmps157; go_wp2_with (first | ((with_reducible refine gate_callee (f := 186) rfl ?_); refine gL _ Tryz.func186 _ ((stringslite_HasPrefix.calls a b c _ d.out).mono ?_); rintro e w' ⟨rfl, ⟨nd, rfl⟩⟩; refine ⟨_, rfl, ?_⟩)); go_ret; exact ⟨rS, dE⟩
end Go.Proofs.YtfmajangcbgooaaGreatDoor.Pr
