-- Made by a program of this session (wip/xp/xp.py), over the print's words.
import Derived.Test.YtfmajangcbgooaaGreatDoorPr0
import Derived.Test.YtfmajangcbgooaaGreatDoorK0
namespace Go.Proofs.YtfmajangcbgooaaGreatDoor.Pr
open Go.RowKit Go.Proofs.YtfmajangcbgooaaGreatDoorW.PrintWords Go.Proofs.YtfmajangcbgooaaGreatDoorW.PrintLast Go.Proofs.YtfmajangcbgooaaGreatDoorW.PrintMore
attribute [local go_sem] max2_int min2_int max_two min_two max_three min_three max_four min_four   -- for this text's walks alone
set_option linter.unusedVariables false
set_option linter.unusedSimpArgs false

/-! ### origin_Default: function 96 -/
def origin_Default.f (a0 : ByteArray) : Option (Int) := if a0.toList = ([104, 116, 116, 112] : List UInt8) then (some 80) else (if a0.toList = ([104, 116, 116, 112, 115] : List UInt8) then (some 443) else (some 0))
set_option maxHeartbeats 8000000 in
set_option maxRecDepth 100000 in
theorem origin_Default.calls (a0 : ByteArray) (r : Int) (w : World) (h : origin_Default.f a0 = some r) :
  Calls Tryz.prog 96 #[.string a0] w fun e w' => e = .returned (.int .i64 r) ∧ Drawn0 w w' := by
 have H : (if a0.toList = ([104, 116, 116, 112] : List UInt8) then (some 80) else (if a0.toList = ([104, 116, 116, 112, 115] : List UInt8) then (some 443) else (some 0))) = some r := h
 clear h
 refine em_ (a0.toList = ([104, 116, 116, 112] : List UInt8)) (fun c1 => ?g1p) (fun c1 => ?g1n)
 case' g1p =>
  rw [if_pos c1] at H
  have c1b0 : (a0.toList == ([104, 116, 116, 112] : List UInt8)) = true := beq_iff_eq.mpr c1
  have c1b1 : (a0.toList != ([104, 116, 116, 112] : List UInt8)) = false := bne_eq_false_iff_eq.mpr c1
  clear c1
  obtain rfl := si_ H
 case' g1n =>
  rw [if_neg c1] at H
  have c1b0 : (a0.toList == ([104, 116, 116, 112] : List UInt8)) = false := beq_eq_false_iff_ne.mpr c1
  have c1b1 : (a0.toList != ([104, 116, 116, 112] : List UInt8)) = true := bne_iff_ne.mpr c1
  refine em_ (a0.toList = ([104, 116, 116, 112, 115] : List UInt8)) (fun c2 => ?g2p) (fun c2 => ?g2n)
  case' g2p =>
   rw [if_pos c2] at H
   have c2b0 : (a0.toList == ([104, 116, 116, 112, 115] : List UInt8)) = true := beq_iff_eq.mpr c2
   have c2b1 : (a0.toList != ([104, 116, 116, 112, 115] : List UInt8)) = false := bne_eq_false_iff_eq.mpr c2
   clear c2
   obtain rfl := si_ H
  case' g2n =>
   rw [if_neg c2] at H
   have c2b0 : (a0.toList == ([104, 116, 116, 112, 115] : List UInt8)) = false := beq_eq_false_iff_ne.mpr c2
   have c2b1 : (a0.toList != ([104, 116, 116, 112, 115] : List UInt8)) = true := bne_iff_ne.mpr c2
   obtain rfl := si_ H
 all_goals
  go_enter Tryz.func96, Tryz.ntmps96
  go_wp2
  go_ret
  exact ⟨by first | rfl | (simp; done) | (simp [*]; done) | (simp [*]; generalize ByteArray.toList _ = l_; cases l_ <;> rfl), by repeat (first | exact Drawn0.refl _ | apply Drawn0.step)⟩

/-! ### octet_digit: function 170 -/
def octet_digit.f (a0 : Int) : Option (Bool) := if a0 ≥ 48 then (some (decide (a0 ≤ 57))) else (some false)
set_option maxHeartbeats 8000000 in
set_option maxRecDepth 100000 in
theorem octet_digit.calls (a0 : Int) (r : Bool) (w : World) (h : octet_digit.f a0 = some r) :
  Calls Tryz.prog 170 #[.int .u8 a0] w fun e w' => e = .returned (.bool r) ∧ Drawn0 w w' := by
 have H : (if a0 ≥ 48 then (some (decide (a0 ≤ 57))) else (some false)) = some r := h
 clear h
 refine em_ (a0 ≥ 48) (fun c1 => ?g1p) (fun c1 => ?g1n)
 case' g1p =>
  rw [if_pos c1] at H
  have c1b0 : decide (48 ≤ a0) = true := decide_eq_true c1
  clear c1
  obtain rfl := si_ H
 case' g1n =>
  rw [if_neg c1] at H
  have c1b0 : decide (48 ≤ a0) = false := decide_eq_false c1
  clear c1
  obtain rfl := si_ H
 all_goals
  go_enter Tryz.func170, Tryz.ntmps170
  go_wp2
  go_ret
  exact ⟨by first | rfl | (simp; done) | (simp [*]; done) | (simp [*]; generalize ByteArray.toList _ = l_; cases l_ <;> rfl), by repeat (first | exact Drawn0.refl _ | apply Drawn0.step)⟩

/-! ### octet_Digits: function 129 -/
def octet_Digits.l0 : Nat → ByteArray → Int → Int → Int → Option (Int × Bool)
 | 0, _, _, _, _ => none
 | k + 1, x0, x4, x8, x9 => if x9 < x8 then (if 0 ≤ x9 then (if x9 < (x0.size : Int) then ((octet_digit.f (bt x0 x9)).bind fun t101 => (if t101 = true then (if x4 > ((18446744073709551615 - (((bt x0 x9) - 48) % 256)) / 10) then (octet_Digits.l0 k x0 18446744073709551615 x8 (wrap64 (x9 + 1))) else (octet_Digits.l0 k x0 (IntKind.u64.wrap ((IntKind.u64.wrap (x4 * 10)) + (((bt x0 x9) - 48) % 256))) x8 (wrap64 (x9 + 1)))) else (some (0, false)))) else (none)) else (none)) else (some (x4, (x0.toList != ([] : List UInt8))))
def octet_Digits.f (k : Nat) (a0 : ByteArray) : Option (Int × Bool) := octet_Digits.l0 k a0 0 (a0.size : Int) 0
theorem octet_Digits.mono_l : ∀ k, (∀ y0 y1 y2 y3, LeO (octet_Digits.l0 k y0 y1 y2 y3) (octet_Digits.l0 (k + 1) y0 y1 y2 y3))
 | 0 => fun _ _ _ _ r h => by simp [octet_Digits.l0] at h
 | k + 1 => by
  have ih0 := octet_Digits.mono_l k
  ·intros
   unfold octet_Digits.l0
   exact moE

theorem octet_Digits.mono : ∀ a0 k, LeO (octet_Digits.f k a0) (octet_Digits.f (k + 1) a0) := by
 intro a0 k
 have ih0 := octet_Digits.mono_l k
 unfold octet_Digits.f
 exact moE

set_option maxHeartbeats 8000000 in
set_option maxRecDepth 100000 in
theorem octet_Digits.calls (k : Nat) (a0 : ByteArray) (r1 : Int) (r2 : Bool) (w : World) (h : octet_Digits.f k a0 = some (r1, r2)) :
  Calls Tryz.prog 129 #[.string a0] w fun e w' => e = .returned (.tuple #[.int .u64 r1, .bool r2]) ∧ Drawn0 w w' := by
 have H : (octet_Digits.l0 k a0 0 (a0.size : Int) 0) = some (r1, r2) := h
 clear h
 have H' := Aside0.mk H
 clear H
 go_enter Tryz.func129, Tryz.ntmps129
 go_wp2
 go_loopg [4, 9] k (fun kq v3s1 v3s2 w' => ∃ (x4_1 : Int) (x9_1 : Int), v3s1 = .int .u64 x4_1 ∧ v3s2 = .int .i64 x9_1 ∧ Aside0 (octet_Digits.l0 kq a0 x4_1 (a0.size : Int) x9_1 = some (r1, r2)) ∧ Aside0 (kq ≤ k) ∧ Drawn0 w w')
 case atStart => exact ⟨(0), (0), rS, rS, H', ⟨Nat.le_refl _⟩, by repeat (first | exact Drawn0.refl _ | apply Drawn0.step)⟩
 case round =>
  clear H'
  obtain ⟨x4_1, x9_1, rfl, rfl, HA, HK1, ⟨m1, rfl⟩⟩ := hrel
  cases gk with
  | zero => exact absurd HA.out (by simp [octet_Digits.l0])
  | succ k1 =>
   have H := HA.out
   clear HA
   simp only [octet_Digits.l0] at H
   refine em_ (x9_1 < (a0.size : Int)) (fun c2 => ?g1p) (fun c2 => ?g1n)
   case' g1p =>
    rw [if_pos c2] at H
    have c2b0 : decide (x9_1 < (a0.size : Int)) = true := decide_eq_true c2
    clear c2
    replace H := iteN_ H; obtain ⟨c3, H⟩ := H
    have c3b0 : decide (0 ≤ x9_1) = true := decide_eq_true c3
    clear c3
    replace H := iteN_ H; obtain ⟨c4, H⟩ := H
    have c4b0 : decide (x9_1 < (a0.size : Int)) = true := decide_eq_true c4
    clear c4
    replace H := bd_ H; obtain ⟨t1, A5, H⟩ := H
    refine em_ (t1 = true) (fun c6 => ?g2p) (fun c6 => ?g2n)
    case' g2p =>
     subst c6
     replace H := ifT_ H
     refine em_ (x4_1 > ((18446744073709551615 - (((bt a0 x9_1) - 48) % 256)) / 10)) (fun c7 => ?g3p) (fun c7 => ?g3n)
     case' g3p =>
      rw [if_pos c7] at H
      have c7b0 : decide (((18446744073709551615 - (((bt a0 x9_1) - 48) % 256)) / 10) < x4_1) = true := decide_eq_true c7
      clear c7
      have H' := Aside0.mk H
      clear H
      obtain ⟨p8, q8, hx8⟩ := btf_ (s := a0) (x := x9_1) mE mE
      have G4 := trivial; have M6_0 := trivial; have M7_0 := trivial
     case' g3n =>
      rw [if_neg c7] at H
      have c7b0 : decide (((18446744073709551615 - (((bt a0 x9_1) - 48) % 256)) / 10) < x4_1) = false := decide_eq_false c7
      clear c7
      have H' := Aside0.mk H
      clear H
      obtain ⟨p8, q8, hx8⟩ := btf_ (s := a0) (x := x9_1) mE mE
      have G4 := trivial; have M6_0 := trivial; have M7_1 := trivial
    case' g2n =>
     replace c6 := Bool.eq_false_iff.mpr c6
     subst c6
     replace H := ifF_ H
     simp only [Option.some.injEq, Prod.mk.injEq] at H
     obtain ⟨rfl, rfl⟩ := H
     obtain ⟨p7, q7, hx7⟩ := btf_ (s := a0) (x := x9_1) mE mE
     have G5 := trivial; have M6_1 := trivial
   case' g1n =>
    rw [if_neg c2] at H
    have c2b0 : decide (x9_1 < (a0.size : Int)) = false := decide_eq_false c2
    clear c2
    simp only [Option.some.injEq, Prod.mk.injEq] at H
    obtain ⟨rfl, rfl⟩ := H
    have M6_1 := trivial
   all_goals
    go_wp2_with (first | (have z_ := G4; clear z_; ((with_reducible refine gate_callee (f := 170) rfl ?_); refine gL (some 15) Tryz.func170 #[.int .u8 (bt a0 x9_1)] ?_; (with_reducible refine (octet_digit.calls (bt a0 x9_1) _ _ A5.out).mono ?_); rintro e w' ⟨rfl, ⟨nd, rfl⟩⟩; refine ⟨_, rfl, ?_⟩; have p1a1 : 0 ≤ (x9_1 : Int) := of_decide_eq_true mE; have q1a1 : x9_1 < (a0.size : Int) := of_decide_eq_true mE; have hx1a1 := bt_at a0 x9_1; replace p1a1 := eq_true p1a1; replace q1a1 := eq_true q1a1)) | (have z_ := G5; clear z_; ((with_reducible refine gate_callee (f := 170) rfl ?_); refine gL (some 15) Tryz.func170 #[.int .u8 (bt a0 x9_1)] ?_; (with_reducible refine (octet_digit.calls (bt a0 x9_1) _ _ A5.out).mono ?_); rintro e w' ⟨rfl, ⟨nd, rfl⟩⟩; refine ⟨_, rfl, ?_⟩)))
    first
    | clear M6_0
      go_roundg k1
      case measure => have := HK1.out; omega
      first
      | clear M7_0
        case rel => exact ⟨(18446744073709551615), (wrap64 (x9_1 + 1)), rS, rS, H', ⟨by have := HK1.out; omega⟩, by repeat (first | exact Drawn0.refl _ | apply Drawn0.step)⟩
      | clear M7_1
        case rel => exact ⟨(IntKind.u64.wrap ((IntKind.u64.wrap (x4_1 * 10)) + (((bt a0 x9_1) - 48) % 256))), (wrap64 (x9_1 + 1)), rS, rS, H', ⟨by have := HK1.out; omega⟩, by repeat (first | exact Drawn0.refl _ | apply Drawn0.step)⟩
    | clear M6_1
      go_ret2
      exact ⟨by first | rfl | (simp; done) | (simp [*]; done) | (simp [*]; generalize ByteArray.toList _ = l_; cases l_ <;> rfl), by repeat (first | exact Drawn0.refl _ | apply Drawn0.step)⟩

/-! ### origin_port: function 97 -/
def origin_port.f (k : Nat) (a0 : ByteArray) : Option (Int) := (octet_Digits.f k a0).bind fun bt102 => (if bt102.2 = true then (if (a0.size : Int) > 5 then (some 0) else (if 0 < (a0.size : Int) then (if (bt a0 0) = 48 then (some 0) else (if bt102.1 > 65535 then (some 0) else (some (wrap64 (bt102.1))))) else (none))) else (some 0))
theorem origin_port.mono : ∀ a0 k, LeO (origin_port.f k a0) (origin_port.f (k + 1) a0) := by
 intro a0 k
 have hm0 := @octet_Digits.mono; unfold origin_port.f
 exact moE

set_option maxHeartbeats 8000000 in
set_option maxRecDepth 100000 in
theorem origin_port.calls (k : Nat) (a0 : ByteArray) (r : Int) (w : World) (h : origin_port.f k a0 = some r) :
  Calls Tryz.prog 97 #[.string a0] w fun e w' => e = .returned (.int .i64 r) ∧ Below w.heap.size w w' := by
 have HB := Aside0.mk (Below.refl w.heap.size w)
 have H : ((octet_Digits.f k a0).bind fun bt1 => (if bt1.2 = true then (if (a0.size : Int) > 5 then (some 0) else (if 0 < (a0.size : Int) then (if (bt a0 0) = 48 then (some 0) else (if bt1.1 > 65535 then (some 0) else (some (wrap64 (bt1.1))))) else (none))) else (some 0))) = some r := h
 clear h
 replace H := bd_ H; obtain ⟨⟨t1, t2⟩, A1, H⟩ := H
 replace H : (if t2 = true then (if (a0.size : Int) > 5 then (some 0) else (if 0 < (a0.size : Int) then (if (bt a0 0) = 48 then (some 0) else (if t1 > 65535 then (some 0) else (some (wrap64 (t1))))) else (none))) else (some 0)) = some r := H
 refine em_ (t2 = true) (fun c2 => ?g1p) (fun c2 => ?g1n)
 case' g1p =>
  subst c2
  replace H := ifT_ H
  refine em_ ((a0.size : Int) > 5) (fun c3 => ?g2p) (fun c3 => ?g2n)
  case' g2p =>
   rw [if_pos c3] at H
   have c3b0 : decide (5 < (a0.size : Int)) = true := decide_eq_true c3
   have c3b1 : decide (5 < a0.size) = true := decide_eq_true (by omega)
   clear c3
   obtain rfl := si_ H
   have G6 := trivial
  case' g2n =>
   rw [if_neg c3] at H
   have c3b0 : decide (5 < (a0.size : Int)) = false := decide_eq_false c3
   have c3b1 : decide (5 < a0.size) = false := decide_eq_false (by omega)
   clear c3
   replace H := iteN_ H; obtain ⟨c4, H⟩ := H
   have c4b0 : decide (0 < (a0.size : Int)) = true := decide_eq_true c4
   have c4b1 : decide (0 < a0.size) = true := decide_eq_true (by omega)
   clear c4
   refine em_ ((bt a0 0) = 48) (fun c5 => ?g3p) (fun c5 => ?g3n)
   case' g3p =>
    rw [if_pos c5] at H
    have c5b0 : ((bt a0 0) == 48) = true := beq_iff_eq.mpr c5
    have c5b1 : ((bt a0 0) != 48) = false := bne_eq_false_iff_eq.mpr c5
    clear c5
    obtain rfl := si_ H
    have G5 := trivial
   case' g3n =>
    rw [if_neg c5] at H
    have c5b0 : ((bt a0 0) == 48) = false := beq_eq_false_iff_ne.mpr c5
    have c5b1 : ((bt a0 0) != 48) = true := bne_iff_ne.mpr c5
    refine em_ (t1 > 65535) (fun c6 => ?g4p) (fun c6 => ?g4n)
    case' g4p =>
     rw [if_pos c6] at H
     have c6b0 : decide (65535 < t1) = true := decide_eq_true c6
     clear c6
     obtain rfl := si_ H
     have G5 := trivial
    case' g4n =>
     rw [if_neg c6] at H
     have c6b0 : decide (65535 < t1) = false := decide_eq_false c6
     clear c6
     obtain rfl := si_ H
     have G5 := trivial
 case' g1n =>
  replace c2 := Bool.eq_false_iff.mpr c2
  subst c2
  replace H := ifF_ H
  obtain rfl := si_ H
  have G6 := trivial
 all_goals
  go_enter Tryz.func97, Tryz.ntmps97
  go_wp2_with (first | (have z_ := G5; clear z_; ((with_reducible refine gate_callee (f := 129) rfl ?_); refine gL (some 7) Tryz.func129 #[.string a0] ?_; (with_reducible refine (octet_Digits.calls k a0 t1 _ _ A1.out).mono ?_); rintro e w' ⟨rfl, ⟨nd, rfl⟩⟩; refine ⟨_, rfl, ?_⟩; have p1a1 : 0 ≤ (0 : Int) := (by omega); have q1a1 : 0 < a0.size := (by have : (0 : Int) < (a0.size : Int) := of_decide_eq_true mE; omega); have hx1a1 : ∀ h : 0 < a0.size, ((a0[0]'h).toNat : Int) = bt a0 0 := bt_at a0 0; clear p1a1; have qi1a1 : (0 < (a0.size : Int)) = True := eq_true (of_decide_eq_true mE); replace q1a1 := eq_true q1a1)) | (have z_ := G6; clear z_; ((with_reducible refine gate_callee (f := 129) rfl ?_); refine gL (some 7) Tryz.func129 #[.string a0] ?_; (with_reducible refine (octet_Digits.calls k a0 t1 _ _ A1.out).mono ?_); rintro e w' ⟨rfl, ⟨nd, rfl⟩⟩; refine ⟨_, rfl, ?_⟩)))
  go_ret
  exact ⟨rE, bE⟩

/-! ### origin_isLabel: function 182 -/
mutual
def origin_isLabel.j0 : Nat → ByteArray → Bool → Option (Bool)
 | 0, _, _ => none
 | k + 1, x0, x25 => if x25 = true then (some false) else (origin_isLabel.l0 k x0 (x0.size : Int) 0)
def origin_isLabel.l0 : Nat → ByteArray → Int → Int → Option (Bool)
 | 0, _, _, _ => none
 | k + 1, x0, x27, x28 => if x28 < x27 then (if 0 ≤ x28 then (if x28 < (x0.size : Int) then (if (bt x0 x28) < 97 then (if (bt x0 x28) < 48 then (if (bt x0 x28) = 45 then (origin_isLabel.l0 k x0 x27 (wrap64 (x28 + 1))) else (some false)) else (if (bt x0 x28) > 57 then (if (bt x0 x28) = 45 then (origin_isLabel.l0 k x0 x27 (wrap64 (x28 + 1))) else (some false)) else (origin_isLabel.l0 k x0 x27 (wrap64 (x28 + 1))))) else (if (bt x0 x28) > 122 then (if (bt x0 x28) < 48 then (if (bt x0 x28) = 45 then (origin_isLabel.l0 k x0 x27 (wrap64 (x28 + 1))) else (some false)) else (if (bt x0 x28) > 57 then (if (bt x0 x28) = 45 then (origin_isLabel.l0 k x0 x27 (wrap64 (x28 + 1))) else (some false)) else (origin_isLabel.l0 k x0 x27 (wrap64 (x28 + 1))))) else (origin_isLabel.l0 k x0 x27 (wrap64 (x28 + 1))))) else (none)) else (none)) else (some true)
end
def origin_isLabel.f (k : Nat) (a0 : ByteArray) : Option (Bool) := if (a0.size : Int) < 1 then (origin_isLabel.j0 k a0 true) else (if (a0.size : Int) > 63 then (origin_isLabel.j0 k a0 true) else (if 0 < (a0.size : Int) then (if (bt a0 0) = 45 then (origin_isLabel.j0 k a0 true) else (if 0 ≤ (wrap64 ((a0.size : Int) - 1)) then (if (wrap64 ((a0.size : Int) - 1)) < (a0.size : Int) then (origin_isLabel.j0 k a0 ((bt a0 (wrap64 ((a0.size : Int) - 1))) == 45)) else (none)) else (none))) else (none)))
theorem origin_isLabel.mono_l : ∀ k, (∀ y0 y1, LeO (origin_isLabel.j0 k y0 y1) (origin_isLabel.j0 (k + 1) y0 y1)) ∧ (∀ y0 y1 y2, LeO (origin_isLabel.l0 k y0 y1 y2) (origin_isLabel.l0 (k + 1) y0 y1 y2))
 | 0 => ⟨fun _ _ r h => by simp [origin_isLabel.j0] at h, fun _ _ _ r h => by simp [origin_isLabel.l0] at h⟩
 | k + 1 => by
  obtain ⟨ih0, ih1⟩ := origin_isLabel.mono_l k
  refine ⟨?_, ?_⟩
  ·intros
   unfold origin_isLabel.j0
   exact moE
  ·intros
   unfold origin_isLabel.l0
   exact moE

theorem origin_isLabel.mono : ∀ a0 k, LeO (origin_isLabel.f k a0) (origin_isLabel.f (k + 1) a0) := by
 intro a0 k
 obtain ⟨ih0, ih1⟩ := origin_isLabel.mono_l k
 unfold origin_isLabel.f
 exact moE

set_option maxHeartbeats 8000000 in
set_option maxRecDepth 100000 in
theorem origin_isLabel.calls (k : Nat) (a0 : ByteArray) (r : Bool) (w : World) (h : origin_isLabel.f k a0 = some r) :
  Calls Tryz.prog 182 #[.string a0] w fun e w' => e = .returned (.bool r) ∧ Drawn0 w w' := by
 have H : (if (a0.size : Int) < 1 then (origin_isLabel.j0 k a0 true) else (if (a0.size : Int) > 63 then (origin_isLabel.j0 k a0 true) else (if 0 < (a0.size : Int) then (if (bt a0 0) = 45 then (origin_isLabel.j0 k a0 true) else (if 0 ≤ (wrap64 ((a0.size : Int) - 1)) then (if (wrap64 ((a0.size : Int) - 1)) < (a0.size : Int) then (origin_isLabel.j0 k a0 ((bt a0 (wrap64 ((a0.size : Int) - 1))) == 45)) else (none)) else (none))) else (none)))) = some r := h
 clear h
 have HC1 := Aside0.mk H
 clear H
 go_enter Tryz.func182, Tryz.ntmps182
 go_upto_region 1 with (first | (fail))
 go_cut [25] (fun v3s1 wc => ∃ (kq : Nat) (x25_1 : Bool), v3s1 = .bool x25_1 ∧ Aside0 (origin_isLabel.j0 kq a0 x25_1 = some r) ∧ Aside0 (kq ≤ k) ∧ Drawn0 w wc)
 case first =>
  have H := HC1.out
  clear HC1
  refine em_ ((a0.size : Int) < 1) (fun c2 => ?g1p) (fun c2 => ?g1n)
  case' g1p =>
   rw [if_pos c2] at H
   have c2b0 : decide ((a0.size : Int) < 1) = true := decide_eq_true c2
   have c2b1 : decide (a0.size < 1) = true := decide_eq_true (by omega)
   clear c2
   (first | rw [c2b0] | (simp only [i64_w, i32_w]; rw [c2b0]) | skip)
   have H' := Aside0.mk H
   clear H
   have M4_0 := trivial
  case' g1n =>
   rw [if_neg c2] at H
   have c2b0 : decide ((a0.size : Int) < 1) = false := decide_eq_false c2
   have c2b1 : decide (a0.size < 1) = false := decide_eq_false (by omega)
   clear c2
   (first | rw [c2b0] | (simp only [i64_w, i32_w]; rw [c2b0]) | skip)
   refine em_ ((a0.size : Int) > 63) (fun c3 => ?g2p) (fun c3 => ?g2n)
   case' g2p =>
    rw [if_pos c3] at H
    have c3b0 : decide (63 < (a0.size : Int)) = true := decide_eq_true c3
    have c3b1 : decide (63 < a0.size) = true := decide_eq_true (by omega)
    clear c3
    have H' := Aside0.mk H
    clear H
    have M4_0 := trivial
   case' g2n =>
    rw [if_neg c3] at H
    have c3b0 : decide (63 < (a0.size : Int)) = false := decide_eq_false c3
    have c3b1 : decide (63 < a0.size) = false := decide_eq_false (by omega)
    clear c3
    replace H := iteN_ H; obtain ⟨c4, H⟩ := H
    have c4b0 : decide (0 < (a0.size : Int)) = true := decide_eq_true c4
    have c4b1 : decide (0 < a0.size) = true := decide_eq_true (by omega)
    clear c4
    refine em_ ((bt a0 0) = 45) (fun c5 => ?g3p) (fun c5 => ?g3n)
    case' g3p =>
     rw [if_pos c5] at H
     have c5b0 : ((bt a0 0) == 45) = true := beq_iff_eq.mpr c5
     have c5b1 : ((bt a0 0) != 45) = false := bne_eq_false_iff_eq.mpr c5
     clear c5
     have H' := Aside0.mk H
     clear H
     have p6 : 0 ≤ (0 : Int) := (by omega)
     have q6 : 0 < a0.size := (by have : (0 : Int) < (a0.size : Int) := of_decide_eq_true mE; omega)
     have hx6 : ∀ h : 0 < a0.size, ((a0[0]'h).toNat : Int) = bt a0 0 := bt_at a0 0
     clear p6
     have qi6 : (0 < (a0.size : Int)) = True := eq_true (of_decide_eq_true mE)
     replace q6 := eq_true q6
     have M4_0 := trivial
    case' g3n =>
     rw [if_neg c5] at H
     have c5b0 : ((bt a0 0) == 45) = false := beq_eq_false_iff_ne.mpr c5
     have c5b1 : ((bt a0 0) != 45) = true := bne_iff_ne.mpr c5
     obtain ⟨ji6, hji6⟩ : ∃ j_ : Int, (wrap64 ((a0.size : Int) - 1)) = j_ := ⟨_, rfl⟩
     replace H : (if 0 ≤ (ji6) then (if (ji6) < (a0.size : Int) then (origin_isLabel.j0 k a0 ((bt a0 (ji6)) == 45)) else (none)) else (none)) = some r := by first | (rw [hji6] at H; exact H) | (simp only [hji6] at H ⊢; exact H)
     have hji6w : (IntKind.i64.wrap ((a0.size : Int) - 1)) = ji6 := (i64_w _).trans hji6
     replace H := iteN_ H; obtain ⟨c7, H⟩ := H
     have c7b0 : decide (0 ≤ (ji6)) = true := decide_eq_true c7
     clear c7
     replace H := iteN_ H; obtain ⟨c8, H⟩ := H
     have c8b0 : decide ((ji6) < (a0.size : Int)) = true := decide_eq_true c8
     clear c8
     have H' := Aside0.mk H
     clear H
     have p9 : 0 ≤ (0 : Int) := (by omega)
     have q9 : 0 < a0.size := (by have : (0 : Int) < (a0.size : Int) := of_decide_eq_true mE; omega)
     have hx9 : ∀ h : 0 < a0.size, ((a0[0]'h).toNat : Int) = bt a0 0 := bt_at a0 0
     clear p9
     have qi9 : (0 < (a0.size : Int)) = True := eq_true (of_decide_eq_true mE)
     replace q9 := eq_true q9
     obtain ⟨p10, q10, hx10⟩ := btf_ (s := a0) (x := (ji6)) mE mE
     have M4_1 := trivial
  all_goals
   go_wp2
   go_meet
   first
   | clear M4_0
     case rel => exact ⟨_, (true), rS, H', ⟨oE⟩, by repeat (first | exact Drawn0.refl _ | apply Drawn0.step)⟩
   | clear M4_1
     case rel => exact ⟨_, (((bt a0 (ji6)) == 45)), (by first | rfl | (simp; done) | (simp only [← hji6] <;> (first | rfl | simp)) | (simp [*]; done)), H', ⟨oE⟩, by repeat (first | exact Drawn0.refl _ | apply Drawn0.step)⟩
 case rest =>
  clear HC1
  try clear c2
  try clear c3
  try clear c3b0
  try clear c3b1
  try clear c4
  try clear c4b0
  try clear c4b1
  try clear c5
  try clear c5b0
  try clear c5b1
  try clear p6
  try clear q6
  try clear hx6
  try clear qi6
  try clear c7
  try clear c7b0
  try clear c8
  try clear c8b0
  try clear p10
  try clear q10
  try clear hx10
  try clear p10
  try clear p6
  try clear q10
  try clear q6
  obtain ⟨kq, x25_1, rfl, HA, HJ1, ⟨mc1, rfl⟩⟩ := hcut
  cases kq with
  | zero => exact absurd HA.out (by simp [origin_isLabel.j0])
  | succ kj1 =>
   have H := HA.out
   clear HA
   simp only [origin_isLabel.j0] at H
   refine em_ (x25_1 = true) (fun c11 => ?g5p) (fun c11 => ?g5n)
   case' g5p =>
    subst c11
    replace H := ifT_ H
    obtain rfl := si_ H
    have M6_0 := trivial
   case' g5n =>
    replace c11 := Bool.eq_false_iff.mpr c11
    subst c11
    replace H := ifF_ H
    have H' := Aside0.mk H
    clear H
    have M6_1 := trivial
   all_goals
    go_wp2
    first
    | clear M6_0
      go_ret
      exact ⟨by first | rfl | (simp; done) | (simp [*]; done) | (simp [*]; generalize ByteArray.toList _ = l_; cases l_ <;> rfl), by repeat (first | exact Drawn0.refl _ | apply Drawn0.step)⟩
    | clear M6_1
      go_loopg [28] kj1 (fun kq v7s1 w' => ∃ (x28_2 : Int), v7s1 = .int .i64 x28_2 ∧ Aside0 (origin_isLabel.l0 kq a0 (a0.size : Int) x28_2 = some r) ∧ Aside0 (kq ≤ kj1) ∧ Drawn0 w w')
      case atStart => exact ⟨(0), rS, H', ⟨Nat.le_refl _⟩, by repeat (first | exact Drawn0.refl _ | apply Drawn0.step)⟩
      case round =>
       clear H'
       try clear c2
       try clear c3
       try clear c3b0
       try clear c3b1
       try clear c4
       try clear c4b0
       try clear c4b1
       try clear c5
       try clear c5b0
       try clear c5b1
       try clear p6
       try clear q6
       try clear hx6
       try clear qi6
       try clear c7
       try clear c7b0
       try clear c8
       try clear c8b0
       try clear p10
       try clear q10
       try clear hx10
       try clear c11
       try clear p10
       try clear p6
       try clear q10
       try clear q6
       obtain ⟨x28_2, rfl, HA, HK2, ⟨m2, rfl⟩⟩ := hrel
       cases gk with
       | zero => exact absurd HA.out (by simp [origin_isLabel.l0])
       | succ k2 =>
        have H := HA.out
        clear HA
        simp only [origin_isLabel.l0] at H
        refine em_ (x28_2 < (a0.size : Int)) (fun c12 => ?g7p) (fun c12 => ?g7n)
        case' g7p =>
         rw [if_pos c12] at H
         have c12b0 : decide (x28_2 < (a0.size : Int)) = true := decide_eq_true c12
         clear c12
         replace H := iteN_ H; obtain ⟨c13, H⟩ := H
         have c13b0 : decide (0 ≤ x28_2) = true := decide_eq_true c13
         clear c13
         replace H := iteN_ H; obtain ⟨c14, H⟩ := H
         have c14b0 : decide (x28_2 < (a0.size : Int)) = true := decide_eq_true c14
         clear c14
         refine em_ ((bt a0 x28_2) < 97) (fun c15 => ?g8p) (fun c15 => ?g8n)
         case' g8p =>
          rw [if_pos c15] at H
          have c15b0 : decide ((bt a0 x28_2) < 97) = true := decide_eq_true c15
          clear c15
          refine em_ ((bt a0 x28_2) < 48) (fun c16 => ?g9p) (fun c16 => ?g9n)
          case' g9p =>
           rw [if_pos c16] at H
           have c16b0 : decide ((bt a0 x28_2) < 48) = true := decide_eq_true c16
           clear c16
           refine em_ ((bt a0 x28_2) = 45) (fun c17 => ?g10p) (fun c17 => ?g10n)
           case' g10p =>
            rw [if_pos c17] at H
            have c17b0 : ((bt a0 x28_2) == 45) = true := beq_iff_eq.mpr c17
            have c17b1 : ((bt a0 x28_2) != 45) = false := bne_eq_false_iff_eq.mpr c17
            clear c17
            have H' := Aside0.mk H
            clear H
            obtain ⟨p18, q18, hx18⟩ := btf_ (s := a0) (x := x28_2) mE mE
            have M18_0 := trivial
           case' g10n =>
            rw [if_neg c17] at H
            have c17b0 : ((bt a0 x28_2) == 45) = false := beq_eq_false_iff_ne.mpr c17
            have c17b1 : ((bt a0 x28_2) != 45) = true := bne_iff_ne.mpr c17
            obtain rfl := si_ H
            obtain ⟨p18, q18, hx18⟩ := btf_ (s := a0) (x := x28_2) mE mE
            have M18_1 := trivial
          case' g9n =>
           rw [if_neg c16] at H
           have c16b0 : decide ((bt a0 x28_2) < 48) = false := decide_eq_false c16
           clear c16
           refine em_ ((bt a0 x28_2) > 57) (fun c17 => ?g11p) (fun c17 => ?g11n)
           case' g11p =>
            rw [if_pos c17] at H
            have c17b0 : decide (57 < (bt a0 x28_2)) = true := decide_eq_true c17
            clear c17
            refine em_ ((bt a0 x28_2) = 45) (fun c18 => ?g12p) (fun c18 => ?g12n)
            case' g12p =>
             rw [if_pos c18] at H
             have c18b0 : ((bt a0 x28_2) == 45) = true := beq_iff_eq.mpr c18
             have c18b1 : ((bt a0 x28_2) != 45) = false := bne_eq_false_iff_eq.mpr c18
             clear c18
             have H' := Aside0.mk H
             clear H
             obtain ⟨p19, q19, hx19⟩ := btf_ (s := a0) (x := x28_2) mE mE
             have M18_0 := trivial
            case' g12n =>
             rw [if_neg c18] at H
             have c18b0 : ((bt a0 x28_2) == 45) = false := beq_eq_false_iff_ne.mpr c18
             have c18b1 : ((bt a0 x28_2) != 45) = true := bne_iff_ne.mpr c18
             obtain rfl := si_ H
             obtain ⟨p19, q19, hx19⟩ := btf_ (s := a0) (x := x28_2) mE mE
             have M18_1 := trivial
           case' g11n =>
            rw [if_neg c17] at H
            have c17b0 : decide (57 < (bt a0 x28_2)) = false := decide_eq_false c17
            clear c17
            have H' := Aside0.mk H
            clear H
            obtain ⟨p18, q18, hx18⟩ := btf_ (s := a0) (x := x28_2) mE mE
            have M18_0 := trivial
         case' g8n =>
          rw [if_neg c15] at H
          have c15b0 : decide ((bt a0 x28_2) < 97) = false := decide_eq_false c15
          clear c15
          refine em_ ((bt a0 x28_2) > 122) (fun c16 => ?g13p) (fun c16 => ?g13n)
          case' g13p =>
           rw [if_pos c16] at H
           have c16b0 : decide (122 < (bt a0 x28_2)) = true := decide_eq_true c16
           clear c16
           refine em_ ((bt a0 x28_2) < 48) (fun c17 => ?g14p) (fun c17 => ?g14n)
           case' g14p =>
            rw [if_pos c17] at H
            have c17b0 : decide ((bt a0 x28_2) < 48) = true := decide_eq_true c17
            clear c17
            refine em_ ((bt a0 x28_2) = 45) (fun c18 => ?g15p) (fun c18 => ?g15n)
            case' g15p =>
             rw [if_pos c18] at H
             have c18b0 : ((bt a0 x28_2) == 45) = true := beq_iff_eq.mpr c18
             have c18b1 : ((bt a0 x28_2) != 45) = false := bne_eq_false_iff_eq.mpr c18
             clear c18
             have H' := Aside0.mk H
             clear H
             obtain ⟨p19, q19, hx19⟩ := btf_ (s := a0) (x := x28_2) mE mE
             have M18_0 := trivial
            case' g15n =>
             rw [if_neg c18] at H
             have c18b0 : ((bt a0 x28_2) == 45) = false := beq_eq_false_iff_ne.mpr c18
             have c18b1 : ((bt a0 x28_2) != 45) = true := bne_iff_ne.mpr c18
             obtain rfl := si_ H
             obtain ⟨p19, q19, hx19⟩ := btf_ (s := a0) (x := x28_2) mE mE
             have M18_1 := trivial
           case' g14n =>
            rw [if_neg c17] at H
            have c17b0 : decide ((bt a0 x28_2) < 48) = false := decide_eq_false c17
            clear c17
            refine em_ ((bt a0 x28_2) > 57) (fun c18 => ?g16p) (fun c18 => ?g16n)
            case' g16p =>
             rw [if_pos c18] at H
             have c18b0 : decide (57 < (bt a0 x28_2)) = true := decide_eq_true c18
             clear c18
             refine em_ ((bt a0 x28_2) = 45) (fun c19 => ?g17p) (fun c19 => ?g17n)
             case' g17p =>
              rw [if_pos c19] at H
              have c19b0 : ((bt a0 x28_2) == 45) = true := beq_iff_eq.mpr c19
              have c19b1 : ((bt a0 x28_2) != 45) = false := bne_eq_false_iff_eq.mpr c19
              clear c19
              have H' := Aside0.mk H
              clear H
              obtain ⟨p20, q20, hx20⟩ := btf_ (s := a0) (x := x28_2) mE mE
              have M18_0 := trivial
             case' g17n =>
              rw [if_neg c19] at H
              have c19b0 : ((bt a0 x28_2) == 45) = false := beq_eq_false_iff_ne.mpr c19
              have c19b1 : ((bt a0 x28_2) != 45) = true := bne_iff_ne.mpr c19
              obtain rfl := si_ H
              obtain ⟨p20, q20, hx20⟩ := btf_ (s := a0) (x := x28_2) mE mE
              have M18_1 := trivial
            case' g16n =>
             rw [if_neg c18] at H
             have c18b0 : decide (57 < (bt a0 x28_2)) = false := decide_eq_false c18
             clear c18
             have H' := Aside0.mk H
             clear H
             obtain ⟨p19, q19, hx19⟩ := btf_ (s := a0) (x := x28_2) mE mE
             have M18_0 := trivial
          case' g13n =>
           rw [if_neg c16] at H
           have c16b0 : decide (122 < (bt a0 x28_2)) = false := decide_eq_false c16
           clear c16
           have H' := Aside0.mk H
           clear H
           obtain ⟨p17, q17, hx17⟩ := btf_ (s := a0) (x := x28_2) mE mE
           have M18_0 := trivial
        case' g7n =>
         rw [if_neg c12] at H
         have c12b0 : decide (x28_2 < (a0.size : Int)) = false := decide_eq_false c12
         clear c12
         obtain rfl := si_ H
         have M18_1 := trivial
        all_goals
         go_wp2
         first
         | clear M18_0
           go_roundg k2
           case measure => have := HJ1.out; have := HK2.out; omega
           case rel => exact ⟨(wrap64 (x28_2 + 1)), rS, H', ⟨by have := HJ1.out; have := HK2.out; omega⟩, by repeat (first | exact Drawn0.refl _ | apply Drawn0.step)⟩
         | clear M18_1
           go_ret
           exact ⟨by first | rfl | (simp; done) | (simp [*]; done) | (simp [*]; generalize ByteArray.toList _ = l_; cases l_ <;> rfl), by repeat (first | exact Drawn0.refl _ | apply Drawn0.step)⟩

end Go.Proofs.YtfmajangcbgooaaGreatDoor.Pr
