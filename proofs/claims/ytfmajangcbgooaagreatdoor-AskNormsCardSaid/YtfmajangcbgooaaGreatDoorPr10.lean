-- Made by a program of this session (wip/xp/xp.py), over the print's words.
import Derived.Test.YtfmajangcbgooaaGreatDoorPr0
import Derived.Test.YtfmajangcbgooaaGreatDoorK0
import Derived.Test.YtfmajangcbgooaaGreatDoorPr5
import Derived.Test.YtfmajangcbgooaaGreatDoorG1
import Derived.Test.YtfmajangcbgooaaGreatDoorG3
namespace Go.Proofs.YtfmajangcbgooaaGreatDoor.Pr
open Go.RowKit Go.Proofs.YtfmajangcbgooaaGreatDoorW.PrintWords Go.Proofs.YtfmajangcbgooaaGreatDoorW.PrintLast Go.Proofs.YtfmajangcbgooaaGreatDoorW.PrintMore
attribute [local go_sem] max2_int min2_int max_two min_two max_three min_three max_four min_four   -- for this text's walks alone
set_option linter.unusedVariables false
set_option linter.unusedSimpArgs false

/-! ### octet_letter: function 183 -/
def octet_letter.f (a0 : Int) : Option (Bool) := if a0 ≥ 97 then (if a0 ≤ 122 then (some true) else (if a0 ≥ 65 then (some (decide (a0 ≤ 90))) else (some false))) else (if a0 ≥ 65 then (some (decide (a0 ≤ 90))) else (some false))
set_option maxHeartbeats 8000000 in
set_option maxRecDepth 100000 in
theorem octet_letter.calls (a0 : Int) (r : Bool) (w : World) (h : octet_letter.f a0 = some r) :
  Calls Tryz.prog 183 #[.int .u8 a0] w fun e w' => e = .returned (.bool r) ∧ Drawn0 w w' := by
 have H : (if a0 ≥ 97 then (if a0 ≤ 122 then (some true) else (if a0 ≥ 65 then (some (decide (a0 ≤ 90))) else (some false))) else (if a0 ≥ 65 then (some (decide (a0 ≤ 90))) else (some false))) = some r := h
 clear h
 refine em_ (a0 ≥ 97) (fun c1 => ?g1p) (fun c1 => ?g1n)
 case' g1p =>
  rw [if_pos c1] at H
  have c1b0 : decide (97 ≤ a0) = true := decide_eq_true c1
  clear c1
  refine em_ (a0 ≤ 122) (fun c2 => ?g2p) (fun c2 => ?g2n)
  case' g2p =>
   rw [if_pos c2] at H
   have c2b0 : decide (a0 ≤ 122) = true := decide_eq_true c2
   clear c2
   obtain rfl := si_ H
  case' g2n =>
   rw [if_neg c2] at H
   have c2b0 : decide (a0 ≤ 122) = false := decide_eq_false c2
   clear c2
   refine em_ (a0 ≥ 65) (fun c3 => ?g3p) (fun c3 => ?g3n)
   case' g3p =>
    rw [if_pos c3] at H
    have c3b0 : decide (65 ≤ a0) = true := decide_eq_true c3
    clear c3
    obtain rfl := si_ H
   case' g3n =>
    rw [if_neg c3] at H
    have c3b0 : decide (65 ≤ a0) = false := decide_eq_false c3
    clear c3
    obtain rfl := si_ H
 case' g1n =>
  rw [if_neg c1] at H
  have c1b0 : decide (97 ≤ a0) = false := decide_eq_false c1
  clear c1
  refine em_ (a0 ≥ 65) (fun c2 => ?g4p) (fun c2 => ?g4n)
  case' g4p =>
   rw [if_pos c2] at H
   have c2b0 : decide (65 ≤ a0) = true := decide_eq_true c2
   clear c2
   obtain rfl := si_ H
  case' g4n =>
   rw [if_neg c2] at H
   have c2b0 : decide (65 ≤ a0) = false := decide_eq_false c2
   clear c2
   obtain rfl := si_ H
 all_goals
  go_enter Tryz.func183, Tryz.ntmps183
  go_wp2
  go_ret
  exact ⟨by first | rfl | (simp; done) | (simp [*]; done) | (simp [*]; generalize ByteArray.toList _ = l_; cases l_ <;> rfl), by repeat (first | exact Drawn0.refl _ | apply Drawn0.step)⟩

/-! ### octet_Token: function 146 -/
def octet_Token.l0 : Nat → ByteArray → Int → Int → Option (Bool)
 | 0, _, _, _ => none
 | k + 1, x0, x5, x6 => if x6 < x5 then (if 0 ≤ x6 then (if x6 < (x0.size : Int) then ((octet_letter.f (bt x0 x6)).bind fun t180 => (if t180 = true then (octet_Token.l0 k x0 x5 (wrap64 (x6 + 1))) else ((octet_digit.f (bt x0 x6)).bind fun t181 => (if t181 = true then (octet_Token.l0 k x0 x5 (wrap64 (x6 + 1))) else ((strings_IndexByte.f (⟨#[33, 35, 36, 37, 38, 39, 42, 43, 45, 46, 94, 95, 96, 124, 126]⟩ : ByteArray) (bt x0 x6)).bind fun t182 => (if t182 < 0 then (some false) else (octet_Token.l0 k x0 x5 (wrap64 (x6 + 1))))))))) else (none)) else (none)) else (some (x0.toList != ([] : List UInt8)))
def octet_Token.f (k : Nat) (a0 : ByteArray) : Option (Bool) := octet_Token.l0 k a0 (a0.size : Int) 0
theorem octet_Token.mono_l : ∀ k, (∀ y0 y1 y2, LeO (octet_Token.l0 k y0 y1 y2) (octet_Token.l0 (k + 1) y0 y1 y2))
 | 0 => fun _ _ _ r h => by simp [octet_Token.l0] at h
 | k + 1 => by
  have ih0 := octet_Token.mono_l k
  ·intros
   unfold octet_Token.l0
   exact moE

theorem octet_Token.mono : ∀ a0 k, LeO (octet_Token.f k a0) (octet_Token.f (k + 1) a0) := by
 intro a0 k
 have ih0 := octet_Token.mono_l k
 unfold octet_Token.f
 exact moE

set_option maxHeartbeats 8000000 in
set_option maxRecDepth 100000 in
theorem octet_Token.calls (k : Nat) (a0 : ByteArray) (r : Bool) (w : World) (h : octet_Token.f k a0 = some r) :
  Calls Tryz.prog 146 #[.string a0] w fun e w' => e = .returned (.bool r) ∧ Drawn0 w w' := by
 have H : (octet_Token.l0 k a0 (a0.size : Int) 0) = some r := h
 clear h
 have H' := Aside0.mk H
 clear H
 go_enter Tryz.func146, Tryz.ntmps146
 go_wp2
 go_loopg [6] k (fun kq v3s1 w' => ∃ (x6_1 : Int), v3s1 = .int .i64 x6_1 ∧ Aside0 (octet_Token.l0 kq a0 (a0.size : Int) x6_1 = some r) ∧ Aside0 (kq ≤ k) ∧ Drawn0 w w')
 case atStart => exact ⟨(0), rS, H', ⟨Nat.le_refl _⟩, by repeat (first | exact Drawn0.refl _ | apply Drawn0.step)⟩
 case round =>
  clear H'
  obtain ⟨x6_1, rfl, HA, HK1, ⟨m1, rfl⟩⟩ := hrel
  cases gk with
  | zero => exact absurd HA.out (by simp [octet_Token.l0])
  | succ k1 =>
   have H := HA.out
   clear HA
   simp only [octet_Token.l0] at H
   refine em_ (x6_1 < (a0.size : Int)) (fun c2 => ?g1p) (fun c2 => ?g1n)
   case' g1p =>
    rw [if_pos c2] at H
    have c2b0 : decide (x6_1 < (a0.size : Int)) = true := decide_eq_true c2
    clear c2
    replace H := iteN_ H; obtain ⟨c3, H⟩ := H
    have c3b0 : decide (0 ≤ x6_1) = true := decide_eq_true c3
    clear c3
    replace H := iteN_ H; obtain ⟨c4, H⟩ := H
    have c4b0 : decide (x6_1 < (a0.size : Int)) = true := decide_eq_true c4
    clear c4
    replace H := bd_ H; obtain ⟨t1, A5, H⟩ := H
    refine em_ (t1 = true) (fun c6 => ?g2p) (fun c6 => ?g2n)
    case' g2p =>
     subst c6
     replace H := ifT_ H
     have H' := Aside0.mk H
     clear H
     obtain ⟨p7, q7, hx7⟩ := btf_ (s := a0) (x := x6_1) mE mE
     have G6 := trivial; have M9_0 := trivial
    case' g2n =>
     replace c6 := Bool.eq_false_iff.mpr c6
     subst c6
     replace H := ifF_ H
     replace H := bd_ H; obtain ⟨t2, A7, H⟩ := H
     refine em_ (t2 = true) (fun c8 => ?g3p) (fun c8 => ?g3n)
     case' g3p =>
      subst c8
      replace H := ifT_ H
      have H' := Aside0.mk H
      clear H
      obtain ⟨p9, q9, hx9⟩ := btf_ (s := a0) (x := x6_1) mE mE
      have G5 := trivial; have G8 := trivial; have M9_0 := trivial
     case' g3n =>
      replace c8 := Bool.eq_false_iff.mpr c8
      subst c8
      replace H := ifF_ H
      replace H := bd_ H; obtain ⟨t3, A9, H⟩ := H
      refine em_ (t3 < 0) (fun c10 => ?g4p) (fun c10 => ?g4n)
      case' g4p =>
       rw [if_pos c10] at H
       have c10b0 : decide (t3 < 0) = true := decide_eq_true c10
       clear c10
       obtain rfl := si_ H
       obtain ⟨p11, q11, hx11⟩ := btf_ (s := a0) (x := x6_1) mE mE
       have G5 := trivial; have G7 := trivial; have M9_1 := trivial
      case' g4n =>
       rw [if_neg c10] at H
       have c10b0 : decide (t3 < 0) = false := decide_eq_false c10
       clear c10
       have H' := Aside0.mk H
       clear H
       obtain ⟨p11, q11, hx11⟩ := btf_ (s := a0) (x := x6_1) mE mE
       have G5 := trivial; have G7 := trivial; have M9_0 := trivial
   case' g1n =>
    rw [if_neg c2] at H
    have c2b0 : decide (x6_1 < (a0.size : Int)) = false := decide_eq_false c2
    clear c2
    obtain rfl := si_ H
    have M9_1 := trivial
   all_goals
    go_wp2_with (first | (have z_ := G5; clear z_; ((with_reducible refine gate_callee (f := 183) rfl ?_); refine gL (some 12) Tryz.func183 #[.int .u8 (bt a0 x6_1)] ?_; (with_reducible refine (octet_letter.calls (bt a0 x6_1) _ _ A5.out).mono ?_); rintro e w' ⟨rfl, ⟨nd, rfl⟩⟩; refine ⟨_, rfl, ?_⟩; have p1a1 : 0 ≤ (x6_1 : Int) := of_decide_eq_true mE; have q1a1 : x6_1 < (a0.size : Int) := of_decide_eq_true mE; have hx1a1 := bt_at a0 x6_1; replace p1a1 := eq_true p1a1; replace q1a1 := eq_true q1a1)) | (have z_ := G6; clear z_; ((with_reducible refine gate_callee (f := 183) rfl ?_); refine gL (some 12) Tryz.func183 #[.int .u8 (bt a0 x6_1)] ?_; (with_reducible refine (octet_letter.calls (bt a0 x6_1) _ _ A5.out).mono ?_); rintro e w' ⟨rfl, ⟨nd, rfl⟩⟩; refine ⟨_, rfl, ?_⟩)) | (have z_ := G7; clear z_; (go_at_call 170; (with_reducible refine (octet_digit.calls (bt a0 x6_1) _ _ A7.out).mono ?_); rintro e w' ⟨rfl, ⟨nd, rfl⟩⟩; have p2a1 : 0 ≤ (x6_1 : Int) := of_decide_eq_true mE; have q2a1 : x6_1 < (a0.size : Int) := of_decide_eq_true mE; have hx2a1 := bt_at a0 x6_1; replace p2a1 := eq_true p2a1; replace q2a1 := eq_true q2a1)) | (have z_ := G8; clear z_; (go_at_call 170; (with_reducible refine (octet_digit.calls (bt a0 x6_1) _ _ A7.out).mono ?_); rintro e w' ⟨rfl, ⟨nd, rfl⟩⟩)) | (go_at_call 141; (with_reducible refine (strings_IndexByte.calls (⟨#[33, 35, 36, 37, 38, 39, 42, 43, 45, 46, 94, 95, 96, 124, 126]⟩ : ByteArray) (bt a0 x6_1) _ _ A9.out).mono ?_); rintro e w' ⟨rfl, ⟨nd, rfl⟩⟩))
    first
    | clear M9_0
      go_roundg k1
      case measure => have := HK1.out; omega
      case rel => exact ⟨(wrap64 (x6_1 + 1)), rS, H', ⟨by have := HK1.out; omega⟩, by repeat (first | exact Drawn0.refl _ | apply Drawn0.step)⟩
    | clear M9_1
      go_ret
      exact ⟨by first | rfl | (simp; done) | (simp [*]; done) | (simp [*]; generalize ByteArray.toList _ = l_; cases l_ <;> rfl), by repeat (first | exact Drawn0.refl _ | apply Drawn0.step)⟩

/-! ### octet_Fold: function 70 -/
def octet_Fold.f (a0 : ByteArray) (a1 : ByteArray) : Option (Bool) := (octet_Lower.f a0).bind fun t183 => ((octet_Lower.f a1).bind fun t184 => (some (t183.toList == t184.toList)))
set_option maxHeartbeats 8000000 in
set_option maxRecDepth 100000 in
theorem octet_Fold.calls (a0 : ByteArray) (a1 : ByteArray) (r : Bool) (w : World) (h : octet_Fold.f a0 a1 = some r) :
  Calls Tryz.prog 70 #[.string a0, .string a1] w fun e w' => e = .returned (.bool r) ∧ Below w.heap.size w w' := by
 have HB := Aside0.mk (Below.refl w.heap.size w)
 have H : ((octet_Lower.f a0).bind fun t1 => ((octet_Lower.f a1).bind fun t2 => (some (t1.toList == t2.toList)))) = some r := h
 clear h
 replace H := bd_ H; obtain ⟨t1, A1, H⟩ := H
 replace H := bd_ H; obtain ⟨t2, A2, H⟩ := H
 obtain rfl := si_ H
 go_enter Tryz.func70, Tryz.ntmps70
 go_wp2_with (first | ((with_reducible refine gate_callee (f := 95) rfl ?_); refine gL (some 6) Tryz.func95 #[.string a0] ?_; (with_reducible refine (octet_Lower.calls a0 t1 _ A1.out).mono ?_); rintro e w1a1 ⟨rfl, hb⟩; refine ⟨_, rfl, ?_⟩; replace HB := bS bE hb; (try clear hb)) | ((with_reducible refine gate_callee (f := 95) rfl ?_); refine gL (some 8) Tryz.func95 #[.string a1] ?_; (with_reducible refine (octet_Lower.calls a1 t2 _ A2.out).mono ?_); rintro e w2a1 ⟨rfl, hb⟩; refine ⟨_, rfl, ?_⟩; replace HB := bS bE hb; (try clear hb)))
 go_ret
 exact ⟨rE, bE⟩

/-! ### method_Bars: function 147 -/
def method_Bars.f (a0 : ByteArray) : Option (Bool) := (octet_Fold.f a0 (⟨#[67, 79, 78, 78, 69, 67, 84]⟩ : ByteArray)).bind fun t185 => (if t185 = true then (some true) else ((octet_Fold.f a0 (⟨#[84, 82, 65, 67, 69]⟩ : ByteArray)).bind fun t186 => (if t186 = true then (some true) else ((octet_Fold.f a0 (⟨#[84, 82, 65, 67, 75]⟩ : ByteArray)).bind fun t187 => (some t187)))))
set_option maxHeartbeats 8000000 in
set_option maxRecDepth 100000 in
theorem method_Bars.calls (a0 : ByteArray) (r : Bool) (w : World) (h : method_Bars.f a0 = some r) :
  Calls Tryz.prog 147 #[.string a0] w fun e w' => e = .returned (.bool r) ∧ Below w.heap.size w w' := by
 have HB := Aside0.mk (Below.refl w.heap.size w)
 have H : ((octet_Fold.f a0 (⟨#[67, 79, 78, 78, 69, 67, 84]⟩ : ByteArray)).bind fun t1 => (if t1 = true then (some true) else ((octet_Fold.f a0 (⟨#[84, 82, 65, 67, 69]⟩ : ByteArray)).bind fun t2 => (if t2 = true then (some true) else ((octet_Fold.f a0 (⟨#[84, 82, 65, 67, 75]⟩ : ByteArray)).bind fun t3 => (some t3)))))) = some r := h
 clear h
 replace H := bd_ H; obtain ⟨t1, A1, H⟩ := H
 refine em_ (t1 = true) (fun c2 => ?g1p) (fun c2 => ?g1n)
 case' g1p =>
  subst c2
  replace H := ifT_ H
  obtain rfl := si_ H
 case' g1n =>
  replace c2 := Bool.eq_false_iff.mpr c2
  subst c2
  replace H := ifF_ H
  replace H := bd_ H; obtain ⟨t2, A3, H⟩ := H
  refine em_ (t2 = true) (fun c4 => ?g2p) (fun c4 => ?g2n)
  case' g2p =>
   subst c4
   replace H := ifT_ H
   obtain rfl := si_ H
  case' g2n =>
   replace c4 := Bool.eq_false_iff.mpr c4
   subst c4
   replace H := ifF_ H
   replace H := bd_ H; obtain ⟨t3, A5, H⟩ := H
   obtain rfl := si_ H
 all_goals
  go_enter Tryz.func147, Tryz.ntmps147
  go_wp2_with (first | ((with_reducible refine gate_callee (f := 70) rfl ?_); refine gL (some 4) Tryz.func70 #[.string a0, .string (⟨#[67, 79, 78, 78, 69, 67, 84]⟩ : ByteArray)] ?_; (with_reducible refine (octet_Fold.calls a0 (⟨#[67, 79, 78, 78, 69, 67, 84]⟩ : ByteArray) _ _ A1.out).mono ?_); rintro e w1a1 ⟨rfl, hb⟩; refine ⟨_, rfl, ?_⟩; replace HB := bS bE hb; (try clear hb)) | (go_at_call 70; (with_reducible refine (octet_Fold.calls a0 (⟨#[84, 82, 65, 67, 69]⟩ : ByteArray) _ _ A3.out).mono ?_); rintro e w2a1 ⟨rfl, hb⟩; replace HB := bS bE hb; (try clear hb)) | (go_at_call 70; (with_reducible refine (octet_Fold.calls a0 (⟨#[84, 82, 65, 67, 75]⟩ : ByteArray) _ _ A5.out).mono ?_); rintro e w3a1 ⟨rfl, hb⟩; replace HB := bS bE hb; (try clear hb)))
  go_ret
  exact ⟨rE, bE⟩

/-! ### method_Check: function 99 -/
def method_Check.f (k : Nat) (a0 : ByteArray) : Option (Int) := (octet_Token.f k a0).bind fun t188 => (if t188 = true then (if (a0.size : Int) > 32 then (some 5) else ((method_Bars.f a0).bind fun t189 => (if t189 = true then (some 5) else (some 0)))) else (some 5))
theorem method_Check.mono : ∀ a0 k, LeO (method_Check.f k a0) (method_Check.f (k + 1) a0) := by
 intro a0 k
 have hm0 := @octet_Token.mono; unfold method_Check.f
 exact moE

set_option maxHeartbeats 8000000 in
set_option maxRecDepth 100000 in
theorem method_Check.calls (k : Nat) (a0 : ByteArray) (r : Int) (w : World) (h : method_Check.f k a0 = some r) :
  Calls Tryz.prog 99 #[.string a0] w fun e w' => e = .returned (.int .i64 r) ∧ Below w.heap.size w w' := by
 have HB := Aside0.mk (Below.refl w.heap.size w)
 have H : ((octet_Token.f k a0).bind fun t1 => (if t1 = true then (if (a0.size : Int) > 32 then (some 5) else ((method_Bars.f a0).bind fun t2 => (if t2 = true then (some 5) else (some 0)))) else (some 5))) = some r := h
 clear h
 replace H := bd_ H; obtain ⟨t1, A1, H⟩ := H
 refine em_ (t1 = true) (fun c2 => ?g1p) (fun c2 => ?g1n)
 case' g1p =>
  subst c2
  replace H := ifT_ H
  refine em_ ((a0.size : Int) > 32) (fun c3 => ?g2p) (fun c3 => ?g2n)
  case' g2p =>
   rw [if_pos c3] at H
   have c3b0 : decide (32 < (a0.size : Int)) = true := decide_eq_true c3
   have c3b1 : decide (32 < a0.size) = true := decide_eq_true (by omega)
   clear c3
   obtain rfl := si_ H
  case' g2n =>
   rw [if_neg c3] at H
   have c3b0 : decide (32 < (a0.size : Int)) = false := decide_eq_false c3
   have c3b1 : decide (32 < a0.size) = false := decide_eq_false (by omega)
   clear c3
   replace H := bd_ H; obtain ⟨t2, A4, H⟩ := H
   refine em_ (t2 = true) (fun c5 => ?g3p) (fun c5 => ?g3n)
   case' g3p =>
    subst c5
    replace H := ifT_ H
    obtain rfl := si_ H
   case' g3n =>
    replace c5 := Bool.eq_false_iff.mpr c5
    subst c5
    replace H := ifF_ H
    obtain rfl := si_ H
 case' g1n =>
  replace c2 := Bool.eq_false_iff.mpr c2
  subst c2
  replace H := ifF_ H
  obtain rfl := si_ H
 all_goals
  go_enter Tryz.func99, Tryz.ntmps99
  go_wp2_with (first | ((with_reducible refine gate_callee (f := 146) rfl ?_); refine gL (some 4) Tryz.func146 #[.string a0] ?_; (with_reducible refine (octet_Token.calls k a0 _ _ A1.out).mono ?_); rintro e w' ⟨rfl, ⟨nd, rfl⟩⟩; refine ⟨_, rfl, ?_⟩) | (go_at_call 147; (with_reducible refine (method_Bars.calls a0 _ _ A4.out).mono ?_); rintro e w2a1 ⟨rfl, hb⟩; replace HB := bS bE hb; (try clear hb)))
  go_ret
  exact ⟨rE, bE⟩

/-! ### ask_isMode: function 100 -/
def ask_isMode.f (a0 : Int) : Option (Bool) := if a0 = 1 then (some true) else (if a0 = 2 then (some true) else (some (a0 == 3)))
set_option maxHeartbeats 8000000 in
set_option maxRecDepth 100000 in
theorem ask_isMode.calls (a0 : Int) (r : Bool) (w : World) (h : ask_isMode.f a0 = some r) :
  Calls Tryz.prog 100 #[.int .i64 a0] w fun e w' => e = .returned (.bool r) ∧ Drawn0 w w' := by
 have H : (if a0 = 1 then (some true) else (if a0 = 2 then (some true) else (some (a0 == 3)))) = some r := h
 clear h
 refine em_ (a0 = 1) (fun c1 => ?g1p) (fun c1 => ?g1n)
 case' g1p =>
  rw [if_pos c1] at H
  have c1b0 : (a0 == 1) = true := beq_iff_eq.mpr c1
  have c1b1 : (a0 != 1) = false := bne_eq_false_iff_eq.mpr c1
  clear c1
  obtain rfl := si_ H
 case' g1n =>
  rw [if_neg c1] at H
  have c1b0 : (a0 == 1) = false := beq_eq_false_iff_ne.mpr c1
  have c1b1 : (a0 != 1) = true := bne_iff_ne.mpr c1
  refine em_ (a0 = 2) (fun c2 => ?g2p) (fun c2 => ?g2n)
  case' g2p =>
   rw [if_pos c2] at H
   have c2b0 : (a0 == 2) = true := beq_iff_eq.mpr c2
   have c2b1 : (a0 != 2) = false := bne_eq_false_iff_eq.mpr c2
   clear c2
   obtain rfl := si_ H
  case' g2n =>
   rw [if_neg c2] at H
   have c2b0 : (a0 == 2) = false := beq_eq_false_iff_ne.mpr c2
   have c2b1 : (a0 != 2) = true := bne_iff_ne.mpr c2
   obtain rfl := si_ H
 all_goals
  go_enter Tryz.func100, Tryz.ntmps100
  go_wp2
  go_ret
  exact ⟨by first | rfl | (simp; done) | (simp [*]; done) | (simp [*]; generalize ByteArray.toList _ = l_; cases l_ <;> rfl), by repeat (first | exact Drawn0.refl _ | apply Drawn0.step)⟩

/-! ### octet_blank: function 131 -/
def octet_blank.f (a0 : Int) : Option (Bool) := (strings_IndexByte.f (⟨#[9, 10, 13, 32]⟩ : ByteArray) a0).bind fun t190 => (some (decide (t190 ≥ 0)))
set_option maxHeartbeats 8000000 in
set_option maxRecDepth 100000 in
theorem octet_blank.calls (a0 : Int) (r : Bool) (w : World) (h : octet_blank.f a0 = some r) :
  Calls Tryz.prog 131 #[.int .u8 a0] w fun e w' => e = .returned (.bool r) ∧ Drawn0 w w' := by
 have H : ((strings_IndexByte.f (⟨#[9, 10, 13, 32]⟩ : ByteArray) a0).bind fun t1 => (some (decide (t1 ≥ 0)))) = some r := h
 clear h
 replace H := bd_ H; obtain ⟨t1, A1, H⟩ := H
 obtain rfl := si_ H
 go_enter Tryz.func131, Tryz.ntmps131
 go_wp2_with (first | ((with_reducible refine gate_callee (f := 141) rfl ?_); refine gL (some 4) Tryz.func141 #[.string (⟨#[9, 10, 13, 32]⟩ : ByteArray), .int .u8 a0] ?_; (with_reducible refine (strings_IndexByte.calls (⟨#[9, 10, 13, 32]⟩ : ByteArray) a0 t1 _ A1.out).mono ?_); rintro e w' ⟨rfl, ⟨nd, rfl⟩⟩; refine ⟨_, rfl, ?_⟩))
 go_ret
 exact ⟨by first | rfl | (simp; done) | (simp [*]; done) | (simp [*]; generalize ByteArray.toList _ = l_; cases l_ <;> rfl), by repeat (first | exact Drawn0.refl _ | apply Drawn0.step)⟩

/-! ### octet_Trim: function 77 -/
mutual
def octet_Trim.j1 : Nat → ByteArray → Option (ByteArray)
 | 0, _ => none
 | k + 1, x0 => octet_Trim.l1 k x0
def octet_Trim.l1 : Nat → ByteArray → Option (ByteArray)
 | 0, _ => none
 | k + 1, x0 => if x0.toList = ([] : List UInt8) then (some x0) else (if 0 ≤ (wrap64 ((x0.size : Int) - 1)) then (if (wrap64 ((x0.size : Int) - 1)) < (x0.size : Int) then ((octet_blank.f (bt x0 (wrap64 ((x0.size : Int) - 1)))).bind fun t192 => (if t192 = true then (if (wrap64 ((x0.size : Int) - 1)) ≤ (x0.size : Int) then (octet_Trim.l1 k (x0.extract 0 ((wrap64 ((x0.size : Int) - 1)) : Int).toNat)) else (none)) else (some x0))) else (none)) else (none))
def octet_Trim.l0 : Nat → ByteArray → Option (ByteArray)
 | 0, _ => none
 | k + 1, x0 => if x0.toList = ([] : List UInt8) then (octet_Trim.j1 k x0) else (if 0 < (x0.size : Int) then ((octet_blank.f (bt x0 0)).bind fun t191 => (if t191 = true then (if 1 ≤ (x0.size : Int) then (octet_Trim.l0 k (x0.extract 1 x0.size)) else (none)) else (octet_Trim.j1 k x0))) else (none))
end
def octet_Trim.f (k : Nat) (a0 : ByteArray) : Option (ByteArray) := octet_Trim.l0 k a0
theorem octet_Trim.mono_l : ∀ k, (∀ y0, LeO (octet_Trim.j1 k y0) (octet_Trim.j1 (k + 1) y0)) ∧ (∀ y0, LeO (octet_Trim.l1 k y0) (octet_Trim.l1 (k + 1) y0)) ∧ (∀ y0, LeO (octet_Trim.l0 k y0) (octet_Trim.l0 (k + 1) y0))
 | 0 => ⟨fun _ r h => by simp [octet_Trim.j1] at h, fun _ r h => by simp [octet_Trim.l1] at h, fun _ r h => by simp [octet_Trim.l0] at h⟩
 | k + 1 => by
  obtain ⟨ih0, ih1, ih2⟩ := octet_Trim.mono_l k
  refine ⟨?_, ?_, ?_⟩
  ·intro y0
   unfold octet_Trim.j1
   exact moE
  ·intro y0
   unfold octet_Trim.l1
   exact moE
  ·intro y0
   unfold octet_Trim.l0
   exact moE

theorem octet_Trim.mono : ∀ a0 k, LeO (octet_Trim.f k a0) (octet_Trim.f (k + 1) a0) := by
 intro a0 k
 obtain ⟨ih0, ih1, ih2⟩ := octet_Trim.mono_l k
 unfold octet_Trim.f
 exact moE

set_option maxHeartbeats 8000000 in
set_option maxRecDepth 100000 in
theorem octet_Trim.calls (k : Nat) (a0 : ByteArray) (r : ByteArray) (w : World) (h : octet_Trim.f k a0 = some r) :
  Calls Tryz.prog 77 #[.string a0] w fun e w' => e = .returned (.string r) ∧ Drawn0 w w' := by
 have H : (octet_Trim.l0 k a0) = some r := h
 clear h
 have HC1 := Aside0.mk H
 clear H
 go_enter Tryz.func77, Tryz.ntmps77
 go_upto_block 0 with (first | (fail))
 go_cut [0] (fun v3s1 wc => ∃ (kq : Nat) (x0_1 : ByteArray), v3s1 = .string x0_1 ∧ Aside0 (octet_Trim.j1 kq x0_1 = some r) ∧ Aside0 (kq ≤ k) ∧ Drawn0 w wc)
 case first =>
  have H := HC1.out
  clear HC1
  have H' := Aside0.mk H
  clear H
  go_wp2
  go_loopg [0] k (fun kq v3s1 w' => ∃ (x0_1 : ByteArray), v3s1 = .string x0_1 ∧ Aside0 (octet_Trim.l0 kq x0_1 = some r) ∧ Aside0 (kq ≤ k) ∧ Drawn0 w w')
  case atStart => exact ⟨(a0), rS, H', ⟨Nat.le_refl _⟩, by repeat (first | exact Drawn0.refl _ | apply Drawn0.step)⟩
  case round =>
   clear H'
   obtain ⟨x0_1, rfl, HA, HK1, ⟨m1, rfl⟩⟩ := hrel
   cases gk with
   | zero => exact absurd HA.out (by simp [octet_Trim.l0])
   | succ k1 =>
    have H := HA.out
    clear HA
    simp only [octet_Trim.l0] at H
    refine em_ (x0_1.toList = ([] : List UInt8)) (fun c2 => ?g1p) (fun c2 => ?g1n)
    case' g1p =>
     rw [if_pos c2] at H
     have c2b0 : (x0_1.toList == ([] : List UInt8)) = true := beq_iff_eq.mpr c2
     have c2b1 : (x0_1.toList != ([] : List UInt8)) = false := bne_eq_false_iff_eq.mpr c2
     clear c2
     (first | rw [c2b0] | (simp only [i64_w, i32_w]; rw [c2b0]) | skip)
     have H' := Aside0.mk H
     clear H
     have M3_0 := trivial
    case' g1n =>
     rw [if_neg c2] at H
     have c2b0 : (x0_1.toList == ([] : List UInt8)) = false := beq_eq_false_iff_ne.mpr c2
     have c2b1 : (x0_1.toList != ([] : List UInt8)) = true := bne_iff_ne.mpr c2
     (first | rw [c2b0] | (simp only [i64_w, i32_w]; rw [c2b0]) | skip)
     replace H := iteN_ H; obtain ⟨c3, H⟩ := H
     have c3b0 : decide (0 < (x0_1.size : Int)) = true := decide_eq_true c3
     have c3b1 : decide (0 < x0_1.size) = true := decide_eq_true (by omega)
     clear c3
     replace H := bd_ H; obtain ⟨t1, A4, H⟩ := H
     refine em_ (t1 = true) (fun c5 => ?g2p) (fun c5 => ?g2n)
     case' g2p =>
      subst c5
      replace H := ifT_ H
      replace H := iteN_ H; obtain ⟨c6, H⟩ := H
      have c6b0 := eq_true c6
      have c6b1 : decide (1 ≤ (x0_1.size : Int)) = true := decide_eq_true c6
      clear c6
      have H' := Aside0.mk H
      clear H
      have p7 : 0 ≤ (0 : Int) := (by omega)
      have q7 : 0 < x0_1.size := (by have : (0 : Int) < (x0_1.size : Int) := of_decide_eq_true mE; omega)
      have hx7 : ∀ h : 0 < x0_1.size, ((x0_1[0]'h).toNat : Int) = bt x0_1 0 := bt_at x0_1 0
      clear p7
      have qi7 : (0 < (x0_1.size : Int)) = True := eq_true (of_decide_eq_true mE)
      replace q7 := eq_true q7
      have M3_1 := trivial
     case' g2n =>
      replace c5 := Bool.eq_false_iff.mpr c5
      subst c5
      replace H := ifF_ H
      have H' := Aside0.mk H
      clear H
      have p6 : 0 ≤ (0 : Int) := (by omega)
      have q6 : 0 < x0_1.size := (by have : (0 : Int) < (x0_1.size : Int) := of_decide_eq_true mE; omega)
      have hx6 : ∀ h : 0 < x0_1.size, ((x0_1[0]'h).toNat : Int) = bt x0_1 0 := bt_at x0_1 0
      clear p6
      have qi6 : (0 < (x0_1.size : Int)) = True := eq_true (of_decide_eq_true mE)
      replace q6 := eq_true q6
      have M3_0 := trivial
    all_goals
     go_wp2_with (first | (go_at_call 131; (with_reducible refine (octet_blank.calls (bt x0_1 0) _ _ A4.out).mono ?_); rintro e w' ⟨rfl, ⟨nd, rfl⟩⟩))
     first
     | clear M3_0
       go_meet
       case rel => exact ⟨_, (x0_1), rS, H', ⟨by have := HK1.out; first | omega | exact Nat.le_refl _⟩, by repeat (first | exact Drawn0.refl _ | apply Drawn0.step)⟩
     | clear M3_1
       go_roundg k1
       case measure => have := HK1.out; omega
       case rel => exact ⟨(x0_1.extract 1 x0_1.size), rS, H', ⟨by have := HK1.out; omega⟩, by repeat (first | exact Drawn0.refl _ | apply Drawn0.step)⟩
 case rest =>
  clear HC1
  try clear c2
  try clear c2b0
  try clear c2b1
  try clear c3
  try clear c3b0
  try clear c3b1
  try clear c5
  try clear c6
  try clear c6b0
  try clear c6b1
  obtain ⟨kq, x0_1, rfl, HA, HJ1, ⟨mc1, rfl⟩⟩ := hcut
  cases kq with
  | zero => exact absurd HA.out (by simp [octet_Trim.j1])
  | succ kj1 =>
   have H := HA.out
   clear HA
   simp only [octet_Trim.j1] at H
   have H' := Aside0.mk H
   clear H
   go_wp2
   go_loopg [0] kj1 (fun kq v3s1 w' => ∃ (x0_2 : ByteArray), v3s1 = .string x0_2 ∧ Aside0 (octet_Trim.l1 kq x0_2 = some r) ∧ Aside0 (kq ≤ kj1) ∧ Drawn0 w w')
   case atStart => exact ⟨(x0_1), rS, H', ⟨Nat.le_refl _⟩, by repeat (first | exact Drawn0.refl _ | apply Drawn0.step)⟩
   case round =>
    clear H'
    try clear c2
    try clear c2b0
    try clear c2b1
    try clear c3
    try clear c3b0
    try clear c3b1
    try clear c5
    try clear c6
    try clear c6b0
    try clear c6b1
    obtain ⟨x0_2, rfl, HA, HK2, ⟨m2, rfl⟩⟩ := hrel
    cases gk with
    | zero => exact absurd HA.out (by simp [octet_Trim.l1])
    | succ k2 =>
     have H := HA.out
     clear HA
     simp only [octet_Trim.l1] at H
     refine em_ (x0_2.toList = ([] : List UInt8)) (fun c8 => ?g4p) (fun c8 => ?g4n)
     case' g4p =>
      rw [if_pos c8] at H
      have c8b0 : (x0_2.toList == ([] : List UInt8)) = true := beq_iff_eq.mpr c8
      have c8b1 : (x0_2.toList != ([] : List UInt8)) = false := bne_eq_false_iff_eq.mpr c8
      clear c8
      obtain rfl := si_ H
      have M6_0 := trivial; have M7_0 := trivial
     case' g4n =>
      rw [if_neg c8] at H
      have c8b0 : (x0_2.toList == ([] : List UInt8)) = false := beq_eq_false_iff_ne.mpr c8
      have c8b1 : (x0_2.toList != ([] : List UInt8)) = true := bne_iff_ne.mpr c8
      obtain ⟨ji9, hji9⟩ : ∃ j_ : Int, (wrap64 ((x0_2.size : Int) - 1)) = j_ := ⟨_, rfl⟩
      replace H : (if 0 ≤ (ji9) then (if (ji9) < (x0_2.size : Int) then ((octet_blank.f (bt x0_2 (ji9))).bind fun t1 => (if t1 = true then (if (ji9) ≤ (x0_2.size : Int) then (octet_Trim.l1 k2 (x0_2.extract 0 ((ji9) : Int).toNat)) else (none)) else (some x0_2))) else (none)) else (none)) = some r := by first | (rw [hji9] at H; exact H) | (simp only [hji9] at H ⊢; exact H)
      have hji9w : (IntKind.i64.wrap ((x0_2.size : Int) - 1)) = ji9 := (i64_w _).trans hji9
      replace H := iteN_ H; obtain ⟨c10, H⟩ := H
      have c10b0 : decide (0 ≤ (ji9)) = true := decide_eq_true c10
      clear c10
      replace H := iteN_ H; obtain ⟨c11, H⟩ := H
      have c11b0 : decide ((ji9) < (x0_2.size : Int)) = true := decide_eq_true c11
      clear c11
      replace H := bd_ H; obtain ⟨t1, A12, H⟩ := H
      refine em_ (t1 = true) (fun c13 => ?g5p) (fun c13 => ?g5n)
      case' g5p =>
       subst c13
       replace H := ifT_ H
       have c14b0 := eq_true (of_decide_eq_true mE : 0 ≤ (ji9))
       replace H := iteN_ H; obtain ⟨c15, H⟩ := H
       have c15b0 := eq_true c15
       have c15b1 : decide ((ji9) ≤ (x0_2.size : Int)) = true := decide_eq_true c15
       clear c15
       have H' := Aside0.mk H
       clear H
       obtain ⟨p16, q16, hx16⟩ := btf_ (s := x0_2) (x := (ji9)) mE mE
       have M6_1 := trivial
      case' g5n =>
       replace c13 := Bool.eq_false_iff.mpr c13
       subst c13
       replace H := ifF_ H
       obtain rfl := si_ H
       obtain ⟨p14, q14, hx14⟩ := btf_ (s := x0_2) (x := (ji9)) mE mE
       have M6_0 := trivial; have M7_1 := trivial
     all_goals
      go_wp2_with (first | (go_at_call 131; (with_reducible refine (octet_blank.calls (bt x0_2 (ji9)) _ _ A12.out).mono ?_); rintro e w' ⟨rfl, ⟨nd, rfl⟩⟩))
      first
      | clear M6_0
        go_ret
        first
        | clear M7_0
          exact ⟨by first | rfl | (simp; done) | (simp [*]; done) | (simp [*]; generalize ByteArray.toList _ = l_; cases l_ <;> rfl), by repeat (first | exact Drawn0.refl _ | apply Drawn0.step)⟩
        | clear M7_1
          exact ⟨by first | rfl | (simp; done) | (simp only [← hji9] <;> (first | rfl | simp)) | (simp [*]; done), by repeat (first | exact Drawn0.refl _ | apply Drawn0.step)⟩
      | clear M6_1
        go_roundg k2
        case measure => have := HJ1.out; have := HK2.out; omega
        case rel => exact ⟨(x0_2.extract 0 ((ji9) : Int).toNat), (by first | rfl | (simp; done) | (simp only [← hji9] <;> (first | rfl | simp)) | (simp [*]; done)), H', ⟨by have := HJ1.out; have := HK2.out; omega⟩, by repeat (first | exact Drawn0.refl _ | apply Drawn0.step)⟩

/-! ### header_isHeader: function 148 -/
def header_isHeader.f (k : Nat) (a0_0 : ByteArray) (a0_1 : ByteArray) : Option (Bool) := (octet_Trim.f k a0_1).bind fun t194 => ((octet_Token.f k a0_0).bind fun t195 => (if t195 = true then (if (a0_0.size : Int) ≤ 64 then (if (t194.size : Int) ≤ 4096 then ((strings_ContainsAny.f t194 (⟨#[0, 10, 13]⟩ : ByteArray)).bind fun t196 => (some (!t196))) else (some false)) else (some false)) else (some false)))
theorem header_isHeader.mono : ∀ a0 a1 k, LeO (header_isHeader.f k a0 a1) (header_isHeader.f (k + 1) a0 a1) := by
 intro a0 a1 k
 have hm0 := @octet_Token.mono; have hm1 := @octet_Trim.mono; unfold header_isHeader.f
 exact moE

set_option maxHeartbeats 8000000 in
set_option maxRecDepth 100000 in
theorem header_isHeader.calls (k : Nat) (a0_0 : ByteArray) (a0_1 : ByteArray) (r : Bool) (w : World) (h : header_isHeader.f k a0_0 a0_1 = some r) :
  Calls Tryz.prog 148 #[.agg #[.string a0_0, .string a0_1]] w fun e w' => e = .returned (.bool r) ∧ Below w.heap.size w w' := by
 have hu28 := Tryz.underlying28
 have HB := Aside0.mk (Below.refl w.heap.size w)
 have H : ((octet_Trim.f k a0_1).bind fun t1 => ((octet_Token.f k a0_0).bind fun t2 => (if t2 = true then (if (a0_0.size : Int) ≤ 64 then (if (t1.size : Int) ≤ 4096 then ((strings_ContainsAny.f t1 (⟨#[0, 10, 13]⟩ : ByteArray)).bind fun t3 => (some (!t3))) else (some false)) else (some false)) else (some false)))) = some r := h
 clear h
 replace H := bd_ H; obtain ⟨t1, A1, H⟩ := H
 replace H := bd_ H; obtain ⟨t2, A2, H⟩ := H
 refine em_ (t2 = true) (fun c3 => ?g1p) (fun c3 => ?g1n)
 case' g1p =>
  subst c3
  replace H := ifT_ H
  refine em_ ((a0_0.size : Int) ≤ 64) (fun c4 => ?g2p) (fun c4 => ?g2n)
  case' g2p =>
   rw [if_pos c4] at H
   have c4b0 : decide ((a0_0.size : Int) ≤ 64) = true := decide_eq_true c4
   have c4b1 : decide (a0_0.size ≤ 64) = true := decide_eq_true (by omega)
   clear c4
   refine em_ ((t1.size : Int) ≤ 4096) (fun c5 => ?g3p) (fun c5 => ?g3n)
   case' g3p =>
    rw [if_pos c5] at H
    have c5b0 : decide ((t1.size : Int) ≤ 4096) = true := decide_eq_true c5
    have c5b1 : decide (t1.size ≤ 4096) = true := decide_eq_true (by omega)
    clear c5
    replace H := bd_ H; obtain ⟨t3, A6, H⟩ := H
    obtain rfl := si_ H
   case' g3n =>
    rw [if_neg c5] at H
    have c5b0 : decide ((t1.size : Int) ≤ 4096) = false := decide_eq_false c5
    have c5b1 : decide (t1.size ≤ 4096) = false := decide_eq_false (by omega)
    clear c5
    obtain rfl := si_ H
  case' g2n =>
   rw [if_neg c4] at H
   have c4b0 : decide ((a0_0.size : Int) ≤ 64) = false := decide_eq_false c4
   have c4b1 : decide (a0_0.size ≤ 64) = false := decide_eq_false (by omega)
   clear c4
   obtain rfl := si_ H
 case' g1n =>
  replace c3 := Bool.eq_false_iff.mpr c3
  subst c3
  replace H := ifF_ H
  obtain rfl := si_ H
 all_goals
  go_enter Tryz.func148, Tryz.ntmps148
  go_wp2_with (first | ((with_reducible refine gate_dst (N := 1) rfl ?_); (try (refine gate_guard (by rfl) ?_; dsimp only)); refine bxE (N := 1) (cs := #[.string a0_0, .string a0_1]) (t := 28) fun gb1a1 hg w1a2 hbox hb => ?_; obtain ⟨HB', BK1a1, GW1a1⟩ := bx_ bE hg hbox hb; have GE1a1 := GW1a1; clear HB hb hbox hg; have HB := HB'; clear HB'; obtain ⟨z1a3_0, z1a3_1, zf1a3_0, zf1a3_1⟩ := bk2_ BK1a1) | ((with_reducible refine gate_callee (f := 77) rfl ?_); refine gL (some 6) Tryz.func77 #[.string a0_1] ?_; (with_reducible refine (octet_Trim.calls k a0_1 _ _ A1.out).mono ?_); rintro e w' ⟨rfl, ⟨nd, rfl⟩⟩; refine ⟨_, rfl, ?_⟩) | ((with_reducible refine gate_callee (f := 146) rfl ?_); refine gL (some 9) Tryz.func146 #[.string a0_0] ?_; (with_reducible refine (octet_Token.calls k a0_0 _ _ A2.out).mono ?_); rintro e w' ⟨rfl, ⟨nd, rfl⟩⟩; refine ⟨_, rfl, ?_⟩) | (go_at_call 184; (with_reducible refine (strings_ContainsAny.calls t1 (⟨#[0, 10, 13]⟩ : ByteArray) _ _ A6.out).mono ?_); rintro e w4a1 ⟨rfl, hb⟩; replace BK1a1 := kM BK1a1 hb; replace HB := bS bE hb; (try clear hb)))
  go_ret
  exact ⟨rE, bE⟩

end Go.Proofs.YtfmajangcbgooaaGreatDoor.Pr
