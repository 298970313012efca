import Derived.Test.YtfmajangcbgooaaGreatDoorPr0
import Derived.Test.YtfmajangcbgooaaGreatDoorK0
import Derived.Test.YtfmajangcbgooaaGreatDoorG1
import Derived.Test.YtfmajangcbgooaaGreatDoorG3
namespace Go.Proofs.YtfmajangcbgooaaGreatDoor.Pr
open Go.RowKit Go.Proofs.YtfmajangcbgooaaGreatDoorW.PrintWords Go.Proofs.YtfmajangcbgooaaGreatDoorW.PrintLast Go.Proofs.YtfmajangcbgooaaGreatDoorW.PrintMore
attribute [local go_sem] max2_int min2_int max_two min_two max_three min_three max_four min_four
set_option linter.unusedVariables false
set_option maxHeartbeats 64000000
set_option maxRecDepth 100000
set_option linter.unusedSimpArgs false
def lockkeeperlaw0_GreatHeaders.l0 : Nat → List (S28) → Int → Int → Option (Bool)
 | 0, _, _, _ => none
 | k + 1, b, c, a => if a < (b.length : Int) then (if 0 ≤ a then (if (((rd_T28 b a).f0).size : Int) > 100 then (some true) else (if (((rd_T28 b a).f1).size : Int) > 5000 then (some true) else (lockkeeperlaw0_GreatHeaders.l0 k b (wrap64 (c + (((rd_T28 b a).f1).size : Int))) (wrap64 (a + 1))))) else (none)) else (some (decide (c > 12000)))
def lockkeeperlaw0_GreatHeaders.f (k : Nat) (l0 : List (S28)) : Option (Bool) := if (l0.length : Int) > 40 then (some true) else (lockkeeperlaw0_GreatHeaders.l0 k l0 0 0)
theorem lockkeeperlaw0_GreatHeaders.mono_l : ∀ k, (∀ a b c, LeO (lockkeeperlaw0_GreatHeaders.l0 k a b c) (lockkeeperlaw0_GreatHeaders.l0 (k + 1) a b c))
 | 0 => fun _ _ _ r h => by simp [lockkeeperlaw0_GreatHeaders.l0] at h
 | k + 1 => by
  have ih0 := lockkeeperlaw0_GreatHeaders.mono_l k
  ·intros
   unfold lockkeeperlaw0_GreatHeaders.l0
   exact moE
theorem lockkeeperlaw0_GreatHeaders.mono : ∀ a k, LeO (lockkeeperlaw0_GreatHeaders.f k a) (lockkeeperlaw0_GreatHeaders.f (k + 1) a) := by
 intro a k
 have ih0 := lockkeeperlaw0_GreatHeaders.mono_l k
 unfold lockkeeperlaw0_GreatHeaders.f
 exact moE
theorem lockkeeperlaw0_GreatHeaders.calls (k : Nat) (A0 : Option Addr) (c0 : Nat) (l0 : List (S28)) (r : Bool) (w : World) (v : Kd.C k28 w A0 l0.length l0) (x : l0.length ≤ c0) (h : lockkeeperlaw0_GreatHeaders.f k l0 = some r) :
  Calls Tryz.prog 33 #[.slice A0 l0.length c0] w fun e w' => e = .returned (.bool r) ∧ Drawn0 w w' := by
 have c := Aside0.mk v; have HC1 := Aside0.mk x; clear v x; have H := h; clear h; unfold lockkeeperlaw0_GreatHeaders.f at H; revert H; refine itePP_ (fun c2 H => ?g1p) (fun c2 H => ?g1n)
 case' g1p =>
  have i : decide (40 < (l0.length : Int)) = true := decide_eq_true c2; have j : decide (40 < l0.length) = true := decide_eq_true (by omega); clear c2; obtain rfl := si_ H; have y := trivial
 case' g1n =>
  have i : decide (40 < (l0.length : Int)) = false := decide_eq_false c2; have j : decide (40 < l0.length) = false := decide_eq_false (by omega); clear c2; have H' := Aside0.mk H; clear H; have z := trivial
 all_goals
  go_enter Tryz.func33, Tryz.ntmps33; go_wp2
  first
  | clear y
    go_ret; exact ⟨by first | rfl | (simp; done) | (simp [*]; done) | (simp [*]; generalize ByteArray.toList _ = l_; cases l_ <;> rfl), dE⟩
  | clear z
    go_loopg [3, 4] k (fun kq A B w' => ∃ (b : Int) (a : Int), A = .int .i64 b ∧ B = .int .i64 a ∧ Aside0 (lockkeeperlaw0_GreatHeaders.l0 kq l0 b a = some r) ∧ Aside0 (kq ≤ k) ∧ Drawn0 w w')
    case atStart => exact ⟨(0), (0), rS, rS, H', ⟨Nat.le_refl _⟩, dE⟩
    case round =>
     clear H'; (try clear c2); (try clear i); (try clear j); obtain ⟨b, a, rfl, rfl, HA, D, ⟨m1, rfl⟩⟩ := hrel
     cases gk with
     | zero => exact absurd HA.out (by simp [lockkeeperlaw0_GreatHeaders.l0])
     | succ k1 =>
      have H := HA.out; clear HA
      simp only [lockkeeperlaw0_GreatHeaders.l0] at H
      revert H; refine iteDD_ (fun E H => ?g3p) (fun E H => ?g3n)
      case' g3p =>
       revert H; refine iteND_ fun c4b0 => itePP_ (fun c5 H => ?g4p) (fun c5 H => ?g4n)
       case' g4p =>
        have G : decide (100 < (((rd_T28 l0 a).f0).size : Int)) = true := decide_eq_true c5; have I : decide (100 < ((rd_T28 l0 a).f0).size) = true := decide_eq_true (by omega); clear c5; obtain rfl := si_ H; have O : 0 ≤ (a : Int) := of_decide_eq_true mE; have U : a < (l0.length : Int) := of_decide_eq_true mE; obtain ⟨ad6, J, W, X⟩ := at_T28 c.out a O U
        cases J
        replace O := eq_true O; replace U := eq_true U; have d := trivial
       case' g4n =>
        have G : decide (100 < (((rd_T28 l0 a).f0).size : Int)) = false := decide_eq_false c5; have I : decide (100 < ((rd_T28 l0 a).f0).size) = false := decide_eq_false (by omega); clear c5; revert H; refine itePP_ (fun c6 H => ?g5p) (fun c6 H => ?g5n)
        case' g5p =>
         have K : decide (5000 < (((rd_T28 l0 a).f1).size : Int)) = true := decide_eq_true c6; have L : decide (5000 < ((rd_T28 l0 a).f1).size) = true := decide_eq_true (by omega); clear c6; obtain rfl := si_ H; have l : 0 ≤ (a : Int) := of_decide_eq_true mE; have m : a < (l0.length : Int) := of_decide_eq_true mE; obtain ⟨g, J, n, o⟩ := at_T28 c.out a l m
         cases J
         replace l := eq_true l; replace m := eq_true m; have p : 0 ≤ (a : Int) := of_decide_eq_true mE; have q : a < (l0.length : Int) := of_decide_eq_true mE; obtain ⟨s, Y, t, u⟩ := at_T28 c.out a p q; obtain rfl : g = s := (by injection Y); replace p := eq_true p; replace q := eq_true q; have d := trivial
        case' g5n =>
         have K : decide (5000 < (((rd_T28 l0 a).f1).size : Int)) = false := decide_eq_false c6; have L : decide (5000 < ((rd_T28 l0 a).f1).size) = false := decide_eq_false (by omega); clear c6; have H' := Aside0.mk H; clear H; have l : 0 ≤ (a : Int) := of_decide_eq_true mE; have m : a < (l0.length : Int) := of_decide_eq_true mE; obtain ⟨g, J, n, o⟩ := at_T28 c.out a l m
         cases J
         replace l := eq_true l; replace m := eq_true m; have p : 0 ≤ (a : Int) := of_decide_eq_true mE; have q : a < (l0.length : Int) := of_decide_eq_true mE; obtain ⟨s, Y, t, u⟩ := at_T28 c.out a p q; obtain rfl : g = s := (by injection Y); replace p := eq_true p; replace q := eq_true q; have Z : 0 ≤ (a : Int) := of_decide_eq_true mE; have q9 : a < (l0.length : Int) := of_decide_eq_true mE; obtain ⟨ad9, e3, hx9_0, hx9_1⟩ := at_T28 c.out a Z q9; obtain rfl : g = ad9 := (by injection e3); replace Z := eq_true Z; replace q9 := eq_true q9; have M := trivial
      case' g3n =>
       obtain rfl := si_ H; have d := trivial
      all_goals
       go_wp2
       first
       | clear d
         go_ret; exact ⟨by first | rfl | (simp; done) | (simp [*]; done) | (simp [*]; generalize ByteArray.toList _ = l_; cases l_ <;> rfl), dE⟩
       | clear M
         go_roundg k1
         case measure => have := D.out; omega
         case rel => exact ⟨(wrap64 (b + (((rd_T28 l0 a).f1).size : Int))), (wrap64 (a + 1)), rS, rS, H', ⟨by have := D.out; omega⟩, dE⟩
def lockkeeperlaw0_GreatReq.f (k : Nat) (a b c : ByteArray) (g : Int) (i : Bool) (d : List (S28)) (j l m n : Int) : Option (Bool) := if (a.size : Int) > 60 then (some true) else (if (b.size : Int) > 700 then (some true) else (if (c.size : Int) > 700 then (some true) else ((lockkeeperlaw0_GreatHeaders.f k d).bind fun e => (some e))))
theorem lockkeeperlaw0_GreatReq.mono : ∀ a b c d e g i j l m k, LeO (lockkeeperlaw0_GreatReq.f k a b c d e g i j l m) (lockkeeperlaw0_GreatReq.f (k + 1) a b c d e g i j l m) := by
 intro a b c d e g i j l m k
 have n := @lockkeeperlaw0_GreatHeaders.mono; unfold lockkeeperlaw0_GreatReq.f
 exact moE
theorem lockkeeperlaw0_GreatReq.calls (k : Nat) (a b c : ByteArray) (g : Int) (i : Bool) (j : Option Addr) (l : Nat) (d : List (S28)) (m n o p : Int) (r : Bool) (w : World) (q : Kd.C k28 w j d.length d) (s : d.length ≤ l) (h : lockkeeperlaw0_GreatReq.f k a b c g i d m n o p = some r) :
  Calls Tryz.prog 17 #[.agg #[.string a, .string b, .string c, .int .i64 g, .bool i, .slice j d.length l, .int .i64 m, .int .u64 n, .int .i64 o, .int .i64 p]] w fun e w' => e = .returned (.bool r) ∧ Below w.heap.size w w' := by
 have ab := Tryz.underlying26; have a8 := Aside0.mk q; have u := Aside0.mk s; clear q s; have HB := Aside0.mk (Below.refl w.heap.size w); have H := h; clear h; unfold lockkeeperlaw0_GreatReq.f at H; revert H; refine itePP_ (fun c2 H => ?g1p) (fun c2 H => ?g1n)
 case' g1p =>
  have y : decide (60 < (a.size : Int)) = true := decide_eq_true c2; have z : decide (60 < a.size) = true := decide_eq_true (by omega); clear c2; obtain rfl := si_ H
 case' g1n =>
  have y : decide (60 < (a.size : Int)) = false := decide_eq_false c2; have z : decide (60 < a.size) = false := decide_eq_false (by omega); clear c2; revert H; refine itePP_ (fun c3 H => ?g2p) (fun c3 H => ?g2n)
  case' g2p =>
   have A : decide (700 < (b.size : Int)) = true := decide_eq_true c3; have B : decide (700 < b.size) = true := decide_eq_true (by omega); clear c3; obtain rfl := si_ H
  case' g2n =>
   have A : decide (700 < (b.size : Int)) = false := decide_eq_false c3; have B : decide (700 < b.size) = false := decide_eq_false (by omega); clear c3; revert H; refine itePP_ (fun c4 H => ?g3p) (fun c4 H => ?g3n)
   case' g3p =>
    have D : decide (700 < (c.size : Int)) = true := decide_eq_true c4; have E : decide (700 < c.size) = true := decide_eq_true (by omega); clear c4; obtain rfl := si_ H
   case' g3n =>
    have D : decide (700 < (c.size : Int)) = false := decide_eq_false c4; have E : decide (700 < c.size) = false := decide_eq_false (by omega); clear c4; replace H := bd_ H; obtain ⟨t1, A5, H⟩ := H; obtain rfl := si_ H
 all_goals
  go_enter Tryz.func17, Tryz.ntmps17; go_wp2_with (first | ((with_reducible refine gate_dst (N := 1) rfl ?_); (try (refine gate_guard (by rfl) ?_; dsimp only)); refine bxE (N := 1) (cs := #[.string a, .string b, .string c, .int .i64 g, .bool i, .slice j d.length l, .int .i64 m, .int .u64 n, .int .i64 o, .int .i64 p]) (t := 26) fun a9 hg ac hbox hb => ?_; obtain ⟨HB', v, x⟩ := bx_ bE hg hbox hb; have aa := x; clear HB hb hbox hg; have HB := HB'; clear HB'; obtain ⟨Y, Z, a0, a1, a2, a3, a4, a5, a6, a7, G, I, J, K, L, M, O, U, W, X⟩ := bk10_ v) | (go_at_call 33; (with_reducible refine (lockkeeperlaw0_GreatHeaders.calls k _ _ d t1 _ ?side1 ?side2 A5.out).mono ?_); (case side1 => exact cE); (case side2 => exact u.out); rintro e w' ⟨rfl, ⟨nd, rfl⟩⟩)); go_ret; exact ⟨rE, bE⟩
def origin_Default.f (a : ByteArray) : Option (Int) := if a.toList = ([104, 116, 116, 112] : List UInt8) then (some 80) else (if a.toList = ([104, 116, 116, 112, 115] : List UInt8) then (some 443) else (some 0))
theorem origin_Default.calls (g : ByteArray) (r : Int) (w : World) (h : origin_Default.f g = some r) :
  Calls Tryz.prog 96 #[.string g] w fun e w' => e = .returned (.int .i64 r) ∧ Drawn0 w w' := by
 have H := h; clear h; unfold origin_Default.f at H; revert H; refine iteEF_ (fun a b H => ?g1p) (fun i a b H => ?g1n)
 case' g1p =>
  obtain rfl := si_ H
 case' g1n =>
  revert H; refine iteEF_ (fun c d H => ?g2p) (fun c2 c d H => ?g2n)
  case' g2p =>
   obtain rfl := si_ H
  case' g2n =>
   obtain rfl := si_ H
 all_goals
  go_enter Tryz.func96, Tryz.ntmps96; go_wp2; go_ret; exact ⟨by first | rfl | (simp; done) | (simp [*]; done) | (simp [*]; generalize ByteArray.toList _ = l_; cases l_ <;> rfl), dE⟩
def octet_digit.f (a : Int) : Option (Bool) := if a ≥ 48 then (some (decide (a ≤ 57))) else (some false)
theorem octet_digit.calls (b : Int) (r : Bool) (w : World) (h : octet_digit.f b = some r) :
  Calls Tryz.prog 170 #[.int .u8 b] w fun e w' => e = .returned (.bool r) ∧ Drawn0 w w' := by
 have H := h; clear h; unfold octet_digit.f at H; revert H; refine iteJJ_ (fun a H => ?g1p) (fun a H => ?g1n)
 case' g1p =>
  obtain rfl := si_ H
 case' g1n =>
  obtain rfl := si_ H
 all_goals
  go_enter Tryz.func170, Tryz.ntmps170; go_wp2; go_ret; exact ⟨by first | rfl | (simp; done) | (simp [*]; done) | (simp [*]; generalize ByteArray.toList _ = l_; cases l_ <;> rfl), dE⟩
def octet_Digits.l0 : Nat → ByteArray → Int → Int → Int → Option (Int × Bool)
 | 0, _, _, _, _ => none
 | k + 1, b, d, e, a => if a < e then (if 0 ≤ a then (if a < (b.size : Int) then ((octet_digit.f (bt b a)).bind fun c => (if c = true then (if d > ((18446744073709551615 - (((bt b a) - 48) % 256)) / 10) then (octet_Digits.l0 k b 18446744073709551615 e (wrap64 (a + 1))) else (octet_Digits.l0 k b (IntKind.u64.wrap ((IntKind.u64.wrap (d * 10)) + (((bt b a) - 48) % 256))) e (wrap64 (a + 1)))) else (some (0, false)))) else (none)) else (none)) else (some (d, (b.toList != ([] : List UInt8))))
def octet_Digits.f (k : Nat) (a : ByteArray) : Option (Int × Bool) := octet_Digits.l0 k a 0 (a.size : Int) 0
theorem octet_Digits.mono_l : ∀ k, (∀ a b c d, LeO (octet_Digits.l0 k a b c d) (octet_Digits.l0 (k + 1) a b c d))
 | 0 => fun _ _ _ _ r h => by simp [octet_Digits.l0] at h
 | k + 1 => by
  have ih0 := octet_Digits.mono_l k
  ·intros
   unfold octet_Digits.l0
   exact moE
theorem octet_Digits.mono : ∀ a k, LeO (octet_Digits.f k a) (octet_Digits.f (k + 1) a) := by
 intro a k
 have ih0 := octet_Digits.mono_l k
 unfold octet_Digits.f
 exact moE
theorem octet_Digits.calls (k : Nat) (b : ByteArray) (t : Int) (u : Bool) (w : World) (h : octet_Digits.f k b = some (t, u)) :
  Calls Tryz.prog 129 #[.string b] w fun e w' => e = .returned (.tuple #[.int .u64 t, .bool u]) ∧ Drawn0 w w' := by
 have H : (octet_Digits.l0 k b 0 (b.size : Int) 0) = some (t, u) := h; clear h; have H' := Aside0.mk H; clear H; go_enter Tryz.func129, Tryz.ntmps129; go_wp2
 go_loopg [4, 9] k (fun kq m n w' => ∃ (c : Int) (a : Int), m = .int .u64 c ∧ n = .int .i64 a ∧ Aside0 (octet_Digits.l0 kq b c (b.size : Int) a = some (t, u)) ∧ Aside0 (kq ≤ k) ∧ Drawn0 w w')
 case atStart => exact ⟨(0), (0), rS, rS, H', ⟨Nat.le_refl _⟩, dE⟩
 case round =>
  clear H'; obtain ⟨c, a, rfl, rfl, HA, l, ⟨I, rfl⟩⟩ := hrel
  cases gk with
  | zero => exact absurd HA.out (by simp [octet_Digits.l0])
  | succ k1 =>
   have H := HA.out; clear HA
   simp only [octet_Digits.l0] at H
   revert H; refine iteDD_ (fun o H => ?g1p) (fun o H => ?g1n)
   case' g1p =>
    revert H; refine iteND_ fun z => iteND_ fun A H => ?_; replace H := bd_ H; obtain ⟨J, B, H⟩ := H; revert H; refine iteB_ (fun c6 H => ?g2p) (fun c6 H => ?g2n)
    case' g2p =>
     subst c6; revert H; refine iteGG_ (fun p H => ?g3p) (fun p H => ?g3n)
     case' g3p =>
      have H' := Aside0.mk H; clear H; obtain ⟨D, E, v⟩ := btf_ (s := b) (x := a) mE mE; have G4 := trivial; have d := trivial; have q := trivial
     case' g3n =>
      have H' := Aside0.mk H; clear H; obtain ⟨D, E, v⟩ := btf_ (s := b) (x := a) mE mE; have G4 := trivial; have d := trivial; have r := trivial
    case' g2n =>
     subst c6
     simp only [Option.some.injEq, Prod.mk.injEq] at H
     obtain ⟨rfl, rfl⟩ := H; obtain ⟨K, L, G⟩ := btf_ (s := b) (x := a) mE mE; have G5 := trivial; have g := trivial
   case' g1n =>
    simp only [Option.some.injEq, Prod.mk.injEq] at H
    obtain ⟨rfl, rfl⟩ := H; have g := trivial
   all_goals
    go_wp2_with (first | (have z_ := G4; clear z_; ((with_reducible refine gate_callee (f := 170) rfl ?_); refine gL _ Tryz.func170 _ ((octet_digit.calls (bt b a) _ _ B.out).mono ?_); rintro e w' ⟨rfl, ⟨nd, rfl⟩⟩; refine ⟨_, rfl, ?_⟩; have i : 0 ≤ (a : Int) := of_decide_eq_true mE; have j : a < (b.size : Int) := of_decide_eq_true mE; have y := bt_at b a; replace i := eq_true i; replace j := eq_true j)) | (have z_ := G5; clear z_; ((with_reducible refine gate_callee (f := 170) rfl ?_); refine gL _ Tryz.func170 _ ((octet_digit.calls (bt b a) _ _ B.out).mono ?_); rintro e w' ⟨rfl, ⟨nd, rfl⟩⟩; refine ⟨_, rfl, ?_⟩)))
    first
    | clear d
      go_roundg k1
      case measure => have := l.out; omega
      first
      | clear q
        case rel => exact ⟨(18446744073709551615), (wrap64 (a + 1)), rS, rS, H', ⟨by have := l.out; omega⟩, dE⟩
      | clear r
        case rel => exact ⟨(IntKind.u64.wrap ((IntKind.u64.wrap (c * 10)) + (((bt b a) - 48) % 256))), (wrap64 (a + 1)), rS, rS, H', ⟨by have := l.out; omega⟩, dE⟩
    | clear g
      go_ret2; exact ⟨by first | rfl | (simp; done) | (simp [*]; done) | (simp [*]; generalize ByteArray.toList _ = l_; cases l_ <;> rfl), dE⟩
def origin_port.f (k : Nat) (b : ByteArray) : Option (Int) := (octet_Digits.f k b).bind fun a => (if a.2 = true then (if (b.size : Int) > 5 then (some 0) else (if 0 < (b.size : Int) then (if (bt b 0) = 48 then (some 0) else (if a.1 > 65535 then (some 0) else (some (wrap64 (a.1))))) else (none))) else (some 0))
theorem origin_port.mono : ∀ a k, LeO (origin_port.f k a) (origin_port.f (k + 1) a) := by
 intro a k
 have b := @octet_Digits.mono; unfold origin_port.f
 exact moE
theorem origin_port.calls (k : Nat) (a : ByteArray) (r : Int) (w : World) (h : origin_port.f k a = some r) :
  Calls Tryz.prog 97 #[.string a] w fun e w' => e = .returned (.int .i64 r) ∧ Below w.heap.size w w' := by
 have HB := Aside0.mk (Below.refl w.heap.size w); have H := h; clear h; unfold origin_port.f at H; replace H := bd_ H; obtain ⟨⟨m, t⟩, p, H⟩ := H; replace H : (if t = true then (if (a.size : Int) > 5 then (some 0) else (if 0 < (a.size : Int) then (if (bt a 0) = 48 then (some 0) else (if m > 65535 then (some 0) else (some (wrap64 (m))))) else (none))) else (some 0)) = some r := H; revert H; refine iteB_ (fun c2 H => ?g1p) (fun c2 H => ?g1n)
 case' g1p =>
  subst c2; revert H; refine itePP_ (fun c3 H => ?g2p) (fun c3 H => ?g2n)
  case' g2p =>
   have c : decide (5 < (a.size : Int)) = true := decide_eq_true c3; have d : decide (5 < a.size) = true := decide_eq_true (by omega); clear c3; obtain rfl := si_ H; have G6 := trivial
  case' g2n =>
   have c : decide (5 < (a.size : Int)) = false := decide_eq_false c3; have d : decide (5 < a.size) = false := decide_eq_false (by omega); clear c3; revert H; refine iteNP_ fun c4 H => ?_; have q := decide_eq_true c4; have s : decide (0 < a.size) = true := decide_eq_true (by omega); clear c4; revert H; refine iteEF_ (fun g i H => ?g3p) (fun c5 g i H => ?g3n)
   case' g3p =>
    obtain rfl := si_ H; have G5 := trivial
   case' g3n =>
    revert H; refine iteGG_ (fun j H => ?g4p) (fun j H => ?g4n)
    case' g4p =>
     obtain rfl := si_ H; have G5 := trivial
    case' g4n =>
     obtain rfl := si_ H; have G5 := trivial
 case' g1n =>
  subst c2; obtain rfl := si_ H; have G6 := trivial
 all_goals
  go_enter Tryz.func97, Tryz.ntmps97; go_wp2_with (first | (have z_ := G5; clear z_; ((with_reducible refine gate_callee (f := 129) rfl ?_); refine gL _ Tryz.func129 _ ((octet_Digits.calls k a m _ _ p.out).mono ?_); rintro e w' ⟨rfl, ⟨nd, rfl⟩⟩; refine ⟨_, rfl, ?_⟩; have l : 0 ≤ (0 : Int) := (by omega); have b : 0 < a.size := (by have : (0 : Int) < (a.size : Int) := of_decide_eq_true mE; omega); have n : ∀ h : 0 < a.size, ((a[0]'h).toNat : Int) = bt a 0 := bt_at a 0; clear l; have o : (0 < (a.size : Int)) = True := eq_true (of_decide_eq_true mE); replace b := eq_true b)) | (have z_ := G6; clear z_; ((with_reducible refine gate_callee (f := 129) rfl ?_); refine gL _ Tryz.func129 _ ((octet_Digits.calls k a m _ _ p.out).mono ?_); rintro e w' ⟨rfl, ⟨nd, rfl⟩⟩; refine ⟨_, rfl, ?_⟩))); go_ret; exact ⟨rE, bE⟩
def octet_letter.f (a : Int) : Option (Bool) := if a ≥ 97 then (if a ≤ 122 then (some true) else (if a ≥ 65 then (some (decide (a ≤ 90))) else (some false))) else (if a ≥ 65 then (some (decide (a ≤ 90))) else (some false))
theorem octet_letter.calls (d : Int) (r : Bool) (w : World) (h : octet_letter.f d = some r) :
  Calls Tryz.prog 183 #[.int .u8 d] w fun e w' => e = .returned (.bool r) ∧ Drawn0 w w' := by
 have H := h; clear h; unfold octet_letter.f at H; revert H; refine iteJJ_ (fun b H => ?g1p) (fun b H => ?g1n)
 case' g1p =>
  revert H; refine iteDD_ (fun a H => ?g2p) (fun a H => ?g2n)
  case' g2p =>
   obtain rfl := si_ H
  case' g2n =>
   revert H; refine iteJJ_ (fun c H => ?g3p) (fun c H => ?g3n)
   case' g3p =>
    obtain rfl := si_ H
   case' g3n =>
    obtain rfl := si_ H
 case' g1n =>
  revert H; refine iteJJ_ (fun a H => ?g4p) (fun a H => ?g4n)
  case' g4p =>
   obtain rfl := si_ H
  case' g4n =>
   obtain rfl := si_ H
 all_goals
  go_enter Tryz.func183, Tryz.ntmps183; go_wp2; go_ret; exact ⟨by first | rfl | (simp; done) | (simp [*]; done) | (simp [*]; generalize ByteArray.toList _ = l_; cases l_ <;> rfl), dE⟩
def octet_Token.l0 : Nat → ByteArray → Int → Int → Option (Bool)
 | 0, _, _, _ => none
 | k + 1, b, g, a => if a < g then (if 0 ≤ a then (if a < (b.size : Int) then ((octet_letter.f (bt b a)).bind fun c => (if c = true then (octet_Token.l0 k b g (wrap64 (a + 1))) else ((octet_digit.f (bt b a)).bind fun d => (if d = true then (octet_Token.l0 k b g (wrap64 (a + 1))) else ((strings_IndexByte.f (⟨#[33, 35, 36, 37, 38, 39, 42, 43, 45, 46, 94, 95, 96, 124, 126]⟩ : ByteArray) (bt b a)).bind fun e => (if e < 0 then (some false) else (octet_Token.l0 k b g (wrap64 (a + 1))))))))) else (none)) else (none)) else (some (b.toList != ([] : List UInt8)))
def octet_Token.f (k : Nat) (a : ByteArray) : Option (Bool) := octet_Token.l0 k a (a.size : Int) 0
theorem octet_Token.mono_l : ∀ k, (∀ a b c, LeO (octet_Token.l0 k a b c) (octet_Token.l0 (k + 1) a b c))
 | 0 => fun _ _ _ r h => by simp [octet_Token.l0] at h
 | k + 1 => by
  have ih0 := octet_Token.mono_l k
  ·intros
   unfold octet_Token.l0
   exact moE
theorem octet_Token.mono : ∀ a k, LeO (octet_Token.f k a) (octet_Token.f (k + 1) a) := by
 intro a k
 have ih0 := octet_Token.mono_l k
 unfold octet_Token.f
 exact moE
theorem octet_Token.calls (k : Nat) (b : ByteArray) (r : Bool) (w : World) (h : octet_Token.f k b = some r) :
  Calls Tryz.prog 146 #[.string b] w fun e w' => e = .returned (.bool r) ∧ Drawn0 w w' := by
 have H : (octet_Token.l0 k b (b.size : Int) 0) = some r := h; clear h; have H' := Aside0.mk H; clear H; go_enter Tryz.func146, Tryz.ntmps146; go_wp2
 go_loopg [6] k (fun kq n w' => ∃ (a : Int), n = .int .i64 a ∧ Aside0 (octet_Token.l0 kq b (b.size : Int) a = some r) ∧ Aside0 (kq ≤ k) ∧ Drawn0 w w')
 case atStart => exact ⟨(0), rS, H', ⟨Nat.le_refl _⟩, dE⟩
 case round =>
  clear H'; obtain ⟨a, rfl, HA, o, ⟨J, rfl⟩⟩ := hrel
  cases gk with
  | zero => exact absurd HA.out (by simp [octet_Token.l0])
  | succ k1 =>
   have H := HA.out; clear HA
   simp only [octet_Token.l0] at H
   revert H; refine iteDD_ (fun p H => ?g1p) (fun p H => ?g1n)
   case' g1p =>
    revert H; refine iteND_ fun z => iteND_ fun A H => ?_; replace H := bd_ H; obtain ⟨K, B, H⟩ := H; revert H; refine iteB_ (fun c6 H => ?g2p) (fun c6 H => ?g2n)
    case' g2p =>
     subst c6; have H' := Aside0.mk H; clear H; obtain ⟨L, M, E⟩ := btf_ (s := b) (x := a) mE mE; have G6 := trivial; have c := trivial
    case' g2n =>
     subst c6; replace H := bd_ H; obtain ⟨O, D, H⟩ := H; revert H; refine iteB_ (fun c8 H => ?g3p) (fun c8 H => ?g3n)
     case' g3p =>
      subst c8; have H' := Aside0.mk H; clear H; obtain ⟨U, W, G⟩ := btf_ (s := b) (x := a) mE mE; have G5 := trivial; have G8 := trivial; have c := trivial
     case' g3n =>
      subst c8; replace H := bd_ H; obtain ⟨X, I, H⟩ := H; revert H; refine iteDD_ (fun m H => ?g4p) (fun m H => ?g4n)
      case' g4p =>
       obtain rfl := si_ H; obtain ⟨t, u, q⟩ := btf_ (s := b) (x := a) mE mE; have G5 := trivial; have G7 := trivial; have d := trivial
      case' g4n =>
       have H' := Aside0.mk H; clear H; obtain ⟨t, u, q⟩ := btf_ (s := b) (x := a) mE mE; have G5 := trivial; have G7 := trivial; have c := trivial
   case' g1n =>
    obtain rfl := si_ H; have d := trivial
   all_goals
    go_wp2_with (first | (have z_ := G5; clear z_; ((with_reducible refine gate_callee (f := 183) rfl ?_); refine gL _ Tryz.func183 _ ((octet_letter.calls (bt b a) _ _ B.out).mono ?_); rintro e w' ⟨rfl, ⟨nd, rfl⟩⟩; refine ⟨_, rfl, ?_⟩; have g : 0 ≤ (a : Int) := of_decide_eq_true mE; have i : a < (b.size : Int) := of_decide_eq_true mE; have v := bt_at b a; replace g := eq_true g; replace i := eq_true i)) | (have z_ := G6; clear z_; ((with_reducible refine gate_callee (f := 183) rfl ?_); refine gL _ Tryz.func183 _ ((octet_letter.calls (bt b a) _ _ B.out).mono ?_); rintro e w' ⟨rfl, ⟨nd, rfl⟩⟩; refine ⟨_, rfl, ?_⟩)) | (have z_ := G7; clear z_; (go_at_call 170; (with_reducible refine (octet_digit.calls (bt b a) _ _ D.out).mono ?_); rintro e w' ⟨rfl, ⟨nd, rfl⟩⟩; have j : 0 ≤ (a : Int) := of_decide_eq_true mE; have l : a < (b.size : Int) := of_decide_eq_true mE; have y := bt_at b a; replace j := eq_true j; replace l := eq_true l)) | (have z_ := G8; clear z_; (go_at_call 170; (with_reducible refine (octet_digit.calls (bt b a) _ _ D.out).mono ?_); rintro e w' ⟨rfl, ⟨nd, rfl⟩⟩)) | (go_at_call 141; (with_reducible refine (strings_IndexByte.calls (⟨#[33, 35, 36, 37, 38, 39, 42, 43, 45, 46, 94, 95, 96, 124, 126]⟩ : ByteArray) (bt b a) _ _ I.out).mono ?_); rintro e w' ⟨rfl, ⟨nd, rfl⟩⟩))
    first
    | clear c
      go_roundg k1
      case measure => have := o.out; omega
      case rel => exact ⟨(wrap64 (a + 1)), rS, H', ⟨by have := o.out; omega⟩, dE⟩
    | clear d
      go_ret; exact ⟨by first | rfl | (simp; done) | (simp [*]; done) | (simp [*]; generalize ByteArray.toList _ = l_; cases l_ <;> rfl), dE⟩
def octet_Fold.f (c d : ByteArray) : Option (Bool) := (octet_Lower.f c).bind fun a => ((octet_Lower.f d).bind fun b => (some (a.toList == b.toList)))
theorem octet_Fold.calls (a b : ByteArray) (r : Bool) (w : World) (h : octet_Fold.f a b = some r) :
  Calls Tryz.prog 70 #[.string a, .string b] w fun e w' => e = .returned (.bool r) ∧ Below w.heap.size w w' := by
 have HB := Aside0.mk (Below.refl w.heap.size w); have H := h; clear h; unfold octet_Fold.f at H; replace H := bd_ H; obtain ⟨g, i, H⟩ := H; replace H := bd_ H; obtain ⟨j, l, H⟩ := H; obtain rfl := si_ H; go_enter Tryz.func70, Tryz.ntmps70; go_wp2_with (first | ((with_reducible refine gate_callee (f := 95) rfl ?_); refine gL _ Tryz.func95 _ ((octet_Lower.calls a g _ i.out).mono ?_); rintro e c ⟨rfl, hb⟩; refine ⟨_, rfl, ?_⟩; replace HB := bS bE hb; (try clear hb)) | ((with_reducible refine gate_callee (f := 95) rfl ?_); refine gL _ Tryz.func95 _ ((octet_Lower.calls b j _ l.out).mono ?_); rintro e d ⟨rfl, hb⟩; refine ⟨_, rfl, ?_⟩; replace HB := bS bE hb; (try clear hb))); go_ret; exact ⟨rE, bE⟩
def method_Bars.f (d : ByteArray) : Option (Bool) := (octet_Fold.f d (⟨#[67, 79, 78, 78, 69, 67, 84]⟩ : ByteArray)).bind fun a => (if a = true then (some true) else ((octet_Fold.f d (⟨#[84, 82, 65, 67, 69]⟩ : ByteArray)).bind fun b => (if b = true then (some true) else ((octet_Fold.f d (⟨#[84, 82, 65, 67, 75]⟩ : ByteArray)).bind fun c => (some c)))))
theorem method_Bars.calls (a : ByteArray) (r : Bool) (w : World) (h : method_Bars.f a = some r) :
  Calls Tryz.prog 147 #[.string a] w fun e w' => e = .returned (.bool r) ∧ Below w.heap.size w w' := by
 have HB := Aside0.mk (Below.refl w.heap.size w); have H := h; clear h; unfold method_Bars.f at H; replace H := bd_ H; obtain ⟨l, g, H⟩ := H; revert H; refine iteB_ (fun c2 H => ?g1p) (fun c2 H => ?g1n)
 case' g1p =>
  subst c2; obtain rfl := si_ H
 case' g1n =>
  subst c2; replace H := bd_ H; obtain ⟨m, i, H⟩ := H; revert H; refine iteB_ (fun c4 H => ?g2p) (fun c4 H => ?g2n)
  case' g2p =>
   subst c4; obtain rfl := si_ H
  case' g2n =>
   subst c4; replace H := bd_ H; obtain ⟨n, j, H⟩ := H; obtain rfl := si_ H
 all_goals
  go_enter Tryz.func147, Tryz.ntmps147; go_wp2_with (first | ((with_reducible refine gate_callee (f := 70) rfl ?_); refine gL _ Tryz.func70 _ ((octet_Fold.calls a (⟨#[67, 79, 78, 78, 69, 67, 84]⟩ : ByteArray) _ _ g.out).mono ?_); rintro e b ⟨rfl, hb⟩; refine ⟨_, rfl, ?_⟩; replace HB := bS bE hb; (try clear hb)) | (go_at_call 70; (with_reducible refine (octet_Fold.calls a (⟨#[84, 82, 65, 67, 69]⟩ : ByteArray) _ _ i.out).mono ?_); rintro e c ⟨rfl, hb⟩; replace HB := bS bE hb; (try clear hb)) | (go_at_call 70; (with_reducible refine (octet_Fold.calls a (⟨#[84, 82, 65, 67, 75]⟩ : ByteArray) _ _ j.out).mono ?_); rintro e d ⟨rfl, hb⟩; replace HB := bS bE hb; (try clear hb))); go_ret; exact ⟨rE, bE⟩
def method_Check.f (k : Nat) (c : ByteArray) : Option (Int) := (octet_Token.f k c).bind fun a => (if a = true then (if (c.size : Int) > 32 then (some 5) else ((method_Bars.f c).bind fun b => (if b = true then (some 5) else (some 0)))) else (some 5))
theorem method_Check.mono : ∀ a k, LeO (method_Check.f k a) (method_Check.f (k + 1) a) := by
 intro a k
 have b := @octet_Token.mono; unfold method_Check.f
 exact moE
theorem method_Check.calls (k : Nat) (a : ByteArray) (r : Int) (w : World) (h : method_Check.f k a = some r) :
  Calls Tryz.prog 99 #[.string a] w fun e w' => e = .returned (.int .i64 r) ∧ Below w.heap.size w w' := by
 have HB := Aside0.mk (Below.refl w.heap.size w); have H := h; clear h; unfold method_Check.f at H; replace H := bd_ H; obtain ⟨j, g, H⟩ := H; revert H; refine iteB_ (fun c2 H => ?g1p) (fun c2 H => ?g1n)
 case' g1p =>
  subst c2; revert H; refine itePP_ (fun c3 H => ?g2p) (fun c3 H => ?g2n)
  case' g2p =>
   have b : decide (32 < (a.size : Int)) = true := decide_eq_true c3; have c : decide (32 < a.size) = true := decide_eq_true (by omega); clear c3; obtain rfl := si_ H
  case' g2n =>
   have b : decide (32 < (a.size : Int)) = false := decide_eq_false c3; have c : decide (32 < a.size) = false := decide_eq_false (by omega); clear c3; replace H := bd_ H; obtain ⟨l, i, H⟩ := H; revert H; refine iteB_ (fun c5 H => ?g3p) (fun c5 H => ?g3n)
   case' g3p =>
    subst c5; obtain rfl := si_ H
   case' g3n =>
    subst c5; obtain rfl := si_ H
 case' g1n =>
  subst c2; obtain rfl := si_ H
 all_goals
  go_enter Tryz.func99, Tryz.ntmps99; go_wp2_with (first | ((with_reducible refine gate_callee (f := 146) rfl ?_); refine gL _ Tryz.func146 _ ((octet_Token.calls k a _ _ g.out).mono ?_); rintro e w' ⟨rfl, ⟨nd, rfl⟩⟩; refine ⟨_, rfl, ?_⟩) | (go_at_call 147; (with_reducible refine (method_Bars.calls a _ _ i.out).mono ?_); rintro e d ⟨rfl, hb⟩; replace HB := bS bE hb; (try clear hb))); go_ret; exact ⟨rE, bE⟩
def ask_isMode.f (a : Int) : Option (Bool) := if a = 1 then (some true) else (if a = 2 then (some true) else (some (a == 3)))
theorem ask_isMode.calls (g : Int) (r : Bool) (w : World) (h : ask_isMode.f g = some r) :
  Calls Tryz.prog 100 #[.int .i64 g] w fun e w' => e = .returned (.bool r) ∧ Drawn0 w w' := by
 have H := h; clear h; unfold ask_isMode.f at H; revert H; refine iteEF_ (fun a b H => ?g1p) (fun i a b H => ?g1n)
 case' g1p =>
  obtain rfl := si_ H
 case' g1n =>
  revert H; refine iteEF_ (fun c d H => ?g2p) (fun c2 c d H => ?g2n)
  case' g2p =>
   obtain rfl := si_ H
  case' g2n =>
   obtain rfl := si_ H
 all_goals
  go_enter Tryz.func100, Tryz.ntmps100; go_wp2; go_ret; exact ⟨by first | rfl | (simp; done) | (simp [*]; done) | (simp [*]; generalize ByteArray.toList _ = l_; cases l_ <;> rfl), dE⟩
def octet_blank.f (b : Int) : Option (Bool) := (strings_IndexByte.f (⟨#[9, 10, 13, 32]⟩ : ByteArray) b).bind fun a => (some (decide (a ≥ 0)))
theorem octet_blank.calls (a : Int) (r : Bool) (w : World) (h : octet_blank.f a = some r) :
  Calls Tryz.prog 131 #[.int .u8 a] w fun e w' => e = .returned (.bool r) ∧ Drawn0 w w' := by
 have H := h; clear h; unfold octet_blank.f at H; replace H := bd_ H; obtain ⟨b, c, H⟩ := H; obtain rfl := si_ H; go_enter Tryz.func131, Tryz.ntmps131; go_wp2_with (first | ((with_reducible refine gate_callee (f := 141) rfl ?_); refine gL _ Tryz.func141 _ ((strings_IndexByte.calls (⟨#[9, 10, 13, 32]⟩ : ByteArray) a b _ c.out).mono ?_); rintro e w' ⟨rfl, ⟨nd, rfl⟩⟩; refine ⟨_, rfl, ?_⟩)); go_ret; exact ⟨by first | rfl | (simp; done) | (simp [*]; done) | (simp [*]; generalize ByteArray.toList _ = l_; cases l_ <;> rfl), dE⟩
mutual
def octet_Trim.j1 : Nat → ByteArray → Option (ByteArray)
 | 0, _ => none
 | k + 1, a => octet_Trim.l1 k a
def octet_Trim.l1 : Nat → ByteArray → Option (ByteArray)
 | 0, _ => none
 | k + 1, a => if a.toList = ([] : List UInt8) then (some a) else (if 0 ≤ (wrap64 ((a.size : Int) - 1)) then (if (wrap64 ((a.size : Int) - 1)) < (a.size : Int) then ((octet_blank.f (bt a (wrap64 ((a.size : Int) - 1)))).bind fun b => (if b = true then (if (wrap64 ((a.size : Int) - 1)) ≤ (a.size : Int) then (octet_Trim.l1 k (a.extract 0 ((wrap64 ((a.size : Int) - 1)) : Int).toNat)) else (none)) else (some a))) else (none)) else (none))
def octet_Trim.l0 : Nat → ByteArray → Option (ByteArray)
 | 0, _ => none
 | k + 1, a => if a.toList = ([] : List UInt8) then (octet_Trim.j1 k a) else (if 0 < (a.size : Int) then ((octet_blank.f (bt a 0)).bind fun b => (if b = true then (if 1 ≤ (a.size : Int) then (octet_Trim.l0 k (a.extract 1 a.size)) else (none)) else (octet_Trim.j1 k a))) else (none))
end
def octet_Trim.f (k : Nat) (a : ByteArray) : Option (ByteArray) := octet_Trim.l0 k a
theorem octet_Trim.mono_l : ∀ k, (∀ a, LeO (octet_Trim.j1 k a) (octet_Trim.j1 (k + 1) a)) ∧ (∀ a, LeO (octet_Trim.l1 k a) (octet_Trim.l1 (k + 1) a)) ∧ (∀ a, LeO (octet_Trim.l0 k a) (octet_Trim.l0 (k + 1) a))
 | 0 => ⟨fun _ r h => by simp [octet_Trim.j1] at h, fun _ r h => by simp [octet_Trim.l1] at h, fun _ r h => by simp [octet_Trim.l0] at h⟩
 | k + 1 => by
  obtain ⟨ih0, ih1, ih2⟩ := octet_Trim.mono_l k
  refine ⟨?_, ?_, ?_⟩
  ·intro a
   unfold octet_Trim.j1
   exact moE
  ·intro a
   unfold octet_Trim.l1
   exact moE
  ·intro a
   unfold octet_Trim.l0
   exact moE
theorem octet_Trim.mono : ∀ a k, LeO (octet_Trim.f k a) (octet_Trim.f (k + 1) a) := by
 intro a k
 obtain ⟨ih0, ih1, ih2⟩ := octet_Trim.mono_l k
 unfold octet_Trim.f
 exact moE
theorem octet_Trim.calls (k : Nat) (K r : ByteArray) (w : World) (h : octet_Trim.f k K = some r) :
  Calls Tryz.prog 77 #[.string K] w fun e w' => e = .returned (.string r) ∧ Drawn0 w w' := by
 have H : (octet_Trim.l0 k K) = some r := h; clear h; have t := Aside0.mk H; clear H; go_enter Tryz.func77, Tryz.ntmps77
 go_upto_block 0 with (first | (fail))
 go_cut [0] (fun d wc => ∃ (kq : Nat) (a : ByteArray), d = .string a ∧ Aside0 (octet_Trim.j1 kq a = some r) ∧ Aside0 (kq ≤ k) ∧ Drawn0 w wc)
 case first =>
  have H := t.out; clear t; have H' := Aside0.mk H; clear H; go_wp2
  go_loopg [0] k (fun kq d w' => ∃ (a : ByteArray), d = .string a ∧ Aside0 (octet_Trim.l0 kq a = some r) ∧ Aside0 (kq ≤ k) ∧ Drawn0 w w')
  case atStart => exact ⟨(K), rS, H', ⟨Nat.le_refl _⟩, dE⟩
  case round =>
   clear H'; obtain ⟨a, rfl, HA, u, ⟨m1, rfl⟩⟩ := hrel
   cases gk with
   | zero => exact absurd HA.out (by simp [octet_Trim.l0])
   | succ k1 =>
    have H := HA.out; clear HA
    simp only [octet_Trim.l0] at H
    revert H; refine iteEF_ (fun c g H => ?g1p) (fun c2 c g H => ?g1n)
    case' g1p =>
     (first | rw [c] | (simp only [i64_w, i32_w]; rw [c]) | skip); have H' := Aside0.mk H; clear H; have l := trivial
    case' g1n =>
     (first | rw [c] | (simp only [i64_w, i32_w]; rw [c]) | skip); revert H; refine iteNP_ fun c3 H => ?_; have m := decide_eq_true c3; have n : decide (0 < a.size) = true := decide_eq_true (by omega); clear c3; replace H := bd_ H; obtain ⟨t1, A4, H⟩ := H; revert H; refine iteB_ (fun c5 H => ?g2p) (fun c5 H => ?g2n)
     case' g2p =>
      subst c5; revert H; refine iteNT_ fun o p H => ?_; have H' := Aside0.mk H; clear H; have p7 : 0 ≤ (0 : Int) := (by omega); have Z : 0 < a.size := (by have : (0 : Int) < (a.size : Int) := of_decide_eq_true mE; omega); have hx7 : ∀ h : 0 < a.size, ((a[0]'h).toNat : Int) = bt a 0 := bt_at a 0; clear p7; have qi7 : (0 < (a.size : Int)) = True := eq_true (of_decide_eq_true mE); replace Z := eq_true Z; have y := trivial
     case' g2n =>
      subst c5; have H' := Aside0.mk H; clear H; have p6 : 0 ≤ (0 : Int) := (by omega); have q6 : 0 < a.size := (by have : (0 : Int) < (a.size : Int) := of_decide_eq_true mE; omega); have hx6 : ∀ h : 0 < a.size, ((a[0]'h).toNat : Int) = bt a 0 := bt_at a 0; clear p6; have qi6 : (0 < (a.size : Int)) = True := eq_true (of_decide_eq_true mE); replace q6 := eq_true q6; have l := trivial
    all_goals
     go_wp2_with (first | (go_at_call 131; (with_reducible refine (octet_blank.calls (bt a 0) _ _ A4.out).mono ?_); rintro e w' ⟨rfl, ⟨nd, rfl⟩⟩))
     first
     | clear l
       go_meet
       case rel => exact ⟨_, (a), rS, H', ⟨by have := u.out; first | omega | exact Nat.le_refl _⟩, dE⟩
     | clear y
       go_roundg k1
       case measure => have := u.out; omega
       case rel => exact ⟨(a.extract 1 a.size), rS, H', ⟨by have := u.out; omega⟩, dE⟩
 case rest =>
  clear t; (try clear c2); (try clear c); (try clear g); (try clear c3); (try clear m); (try clear n); (try clear c5); (try clear o); (try clear p); obtain ⟨kq, a, rfl, HA, z, ⟨mc1, rfl⟩⟩ := hcut
  cases kq with
  | zero => exact absurd HA.out (by simp [octet_Trim.j1])
  | succ A =>
   have H := HA.out; clear HA
   simp only [octet_Trim.j1] at H
   have H' := Aside0.mk H; clear H; go_wp2
   go_loopg [0] A (fun kq d w' => ∃ (b : ByteArray), d = .string b ∧ Aside0 (octet_Trim.l1 kq b = some r) ∧ Aside0 (kq ≤ A) ∧ Drawn0 w w')
   case atStart => exact ⟨(a), rS, H', ⟨Nat.le_refl _⟩, dE⟩
   case round =>
    clear H'; (try clear c2); (try clear c); (try clear g); (try clear c3); (try clear m); (try clear n); (try clear c5); (try clear o); (try clear p); obtain ⟨b, rfl, HA, B, ⟨m2, rfl⟩⟩ := hrel
    cases gk with
    | zero => exact absurd HA.out (by simp [octet_Trim.l1])
    | succ k2 =>
     have H := HA.out; clear HA
     simp only [octet_Trim.l1] at H
     revert H; refine iteEF_ (fun D E H => ?g4p) (fun c8 D E H => ?g4n)
     case' g4p =>
      obtain rfl := si_ H; have q := trivial; have G := trivial
     case' g4n =>
      generalize i : (wrap64 ((b.size : Int) - 1)) = j at H; have L := (i64_w _).trans i; revert H; refine iteND_ fun M => iteND_ fun O H => ?_; replace H := bd_ H; obtain ⟨t1, U, H⟩ := H; revert H; refine iteB_ (fun v H => ?g5p) (fun v H => ?g5n)
      case' g5p =>
       subst v; have W := eq_true (of_decide_eq_true mE : 0 ≤ (j)); revert H; refine iteNT_ fun X Y H => ?_; have H' := Aside0.mk H; clear H; obtain ⟨p16, q16, hx16⟩ := btf_ (s := b) (x := (j)) mE mE; have I := trivial
      case' g5n =>
       subst v; obtain rfl := si_ H; obtain ⟨p14, q14, hx14⟩ := btf_ (s := b) (x := (j)) mE mE; have q := trivial; have J := trivial
     all_goals
      go_wp2_with (first | (go_at_call 131; (with_reducible refine (octet_blank.calls (bt b (j)) _ _ U.out).mono ?_); rintro e w' ⟨rfl, ⟨nd, rfl⟩⟩))
      first
      | clear q
        go_ret
        first
        | clear G
          exact ⟨by first | rfl | (simp; done) | (simp [*]; done) | (simp [*]; generalize ByteArray.toList _ = l_; cases l_ <;> rfl), dE⟩
        | clear J
          exact ⟨by first | rfl | (simp; done) | (simp only [← i] <;> (first | rfl | simp)) | (simp [*]; done), dE⟩
      | clear I
        go_roundg k2
        case measure => have := z.out; have := B.out; omega
        case rel => exact ⟨(b.extract 0 ((j) : Int).toNat), (by first | rfl | (simp; done) | (simp only [← i] <;> (first | rfl | simp)) | (simp [*]; done)), H', ⟨by have := z.out; have := B.out; omega⟩, dE⟩
def header_isHeader.f (k : Nat) (a c : ByteArray) : Option (Bool) := (octet_Trim.f k c).bind fun b => ((octet_Token.f k a).bind fun d => (if d = true then (if (a.size : Int) ≤ 64 then (if (b.size : Int) ≤ 4096 then ((strings_ContainsAny.f b (⟨#[0, 10, 13]⟩ : ByteArray)).bind fun e => (some (!e))) else (some false)) else (some false)) else (some false)))
theorem header_isHeader.mono : ∀ a b k, LeO (header_isHeader.f k a b) (header_isHeader.f (k + 1) a b) := by
 intro a b k
 have c := @octet_Token.mono; have d := @octet_Trim.mono; unfold header_isHeader.f
 exact moE
theorem header_isHeader.calls (k : Nat) (a c : ByteArray) (r : Bool) (w : World) (h : header_isHeader.f k a c = some r) :
  Calls Tryz.prog 148 #[.agg #[.string a, .string c]] w fun e w' => e = .returned (.bool r) ∧ Below w.heap.size w w' := by
 have v := Tryz.underlying28; have HB := Aside0.mk (Below.refl w.heap.size w); have H := h; clear h; unfold header_isHeader.f at H; replace H := bd_ H; obtain ⟨q, z, H⟩ := H; replace H := bd_ H; obtain ⟨D, A, H⟩ := H; revert H; refine iteB_ (fun c3 H => ?g1p) (fun c3 H => ?g1n)
 case' g1p =>
  subst c3; revert H; refine itePP_ (fun c4 H => ?g2p) (fun c4 H => ?g2n)
  case' g2p =>
   have g := decide_eq_true c4; have i : decide (a.size ≤ 64) = true := decide_eq_true (by omega); clear c4; revert H; refine itePP_ (fun c5 H => ?g3p) (fun c5 H => ?g3n)
   case' g3p =>
    have j := decide_eq_true c5; have l : decide (q.size ≤ 4096) = true := decide_eq_true (by omega); clear c5; replace H := bd_ H; obtain ⟨E, B, H⟩ := H; obtain rfl := si_ H
   case' g3n =>
    have j := decide_eq_false c5; have l : decide (q.size ≤ 4096) = false := decide_eq_false (by omega); clear c5; obtain rfl := si_ H
  case' g2n =>
   have g := decide_eq_false c4; have i : decide (a.size ≤ 64) = false := decide_eq_false (by omega); clear c4; obtain rfl := si_ H
 case' g1n =>
  subst c3; obtain rfl := si_ H
 all_goals
  go_enter Tryz.func148, Tryz.ntmps148; go_wp2_with (first | ((with_reducible refine gate_dst (N := 1) rfl ?_); (try (refine gate_guard (by rfl) ?_; dsimp only)); refine bxE (N := 1) (cs := #[.string a, .string c]) (t := 28) fun s hg x hbox hb => ?_; obtain ⟨HB', b, d⟩ := bx_ bE hg hbox hb; have u := d; clear HB hb hbox hg; have HB := HB'; clear HB'; obtain ⟨o, p, m, n⟩ := bk2_ b) | ((with_reducible refine gate_callee (f := 77) rfl ?_); refine gL _ Tryz.func77 _ ((octet_Trim.calls k c _ _ z.out).mono ?_); rintro e w' ⟨rfl, ⟨nd, rfl⟩⟩; refine ⟨_, rfl, ?_⟩) | ((with_reducible refine gate_callee (f := 146) rfl ?_); refine gL _ Tryz.func146 _ ((octet_Token.calls k a _ _ A.out).mono ?_); rintro e w' ⟨rfl, ⟨nd, rfl⟩⟩; refine ⟨_, rfl, ?_⟩) | (go_at_call 184; (with_reducible refine (strings_ContainsAny.calls q (⟨#[0, 10, 13]⟩ : ByteArray) _ _ B.out).mono ?_); rintro e y ⟨rfl, hb⟩; replace b := kM b hb; replace HB := bS bE hb; (try clear hb))); go_ret; exact ⟨rE, bE⟩
end Go.Proofs.YtfmajangcbgooaaGreatDoor.Pr

