-- Made by a program of this session (wip/xp/xp.py), over the print's words.
import Derived.Test.YtbfbidifodcedaaDoorPr0
import Derived.Test.YtbfbidifodcedaaDoorG1
import Derived.Test.YtbfbidifodcedaaDoorG4
import Derived.Test.YtbfbidifodcedaaDoorG5
namespace Go.Proofs.YtbfbidifodcedaaDoor.Pr
open Go.RowKit Go.Proofs.YtbfbidifodcedaaDoorW.PrintWords Go.Proofs.YtbfbidifodcedaaDoorW.PrintLast Go.Proofs.YtbfbidifodcedaaDoorW.PrintMore
attribute [local go_sem] max2_int min2_int max_two min_two max_three min_three max_four min_four   -- for this text's walks alone
set_option linter.unusedVariables false
set_option linter.unusedSimpArgs false

/-! ### lockkeeperlaw0_Long: function 17 -/
def lockkeeperlaw0_Long.l0 : Nat → Int → List ByteArray → Int → Option (Bool)
 | 0,_,_,_ => none
 | k + 1,x0,x1,x5 => if x5 < (x1.length : Int) then (if 0 ≤ x5 then (if ((rdOf ByteArray.empty x1 x5).size : Int) ≥ x0 then (some true) else (lockkeeperlaw0_Long.l0 k (wrap64 ((wrap64 (x0 - ((rdOf ByteArray.empty x1 x5).size : Int))) - 1)) x1 (wrap64 (x5 + 1)))) else (none)) else (some false)
def lockkeeperlaw0_Long.f (k : Nat) (a0 : Int) (l1 : List ByteArray) : Option (Bool):=lockkeeperlaw0_Long.l0 k a0 l1 0
theorem lockkeeperlaw0_Long.mono_l : ∀ k,(∀ y0 y1 y2,LeO (lockkeeperlaw0_Long.l0 k y0 y1 y2) (lockkeeperlaw0_Long.l0 (k + 1) y0 y1 y2))
 | 0 => fun _ _ _ r h => by simp [lockkeeperlaw0_Long.l0] at h
 | k + 1 => by
  have ih0:=lockkeeperlaw0_Long.mono_l k
  ·intro y0 y1 y2
   unfold lockkeeperlaw0_Long.l0
   repeat' first
   | (with_reducible exact ih0 _ _ _)
   | (with_reducible exact LeO.refl _)
   | (with_reducible exact LeO.none _)
   | (with_reducible refine LeO.ite ?_ ?_)
   | (with_reducible refine LeO.bind ?_ (fun _ => ?_))
   | exact ih0 _ _ _
   | exact LeO.none _
   | refine LeO.ite ?_ ?_
   | refine LeO.bind ?_ (fun _ => ?_)
theorem lockkeeperlaw0_Long.mono : ∀ a0 a1 k,LeO (lockkeeperlaw0_Long.f k a0 a1) (lockkeeperlaw0_Long.f (k + 1) a0 a1):=by
 intro a0 a1 k
 have ih0:=lockkeeperlaw0_Long.mono_l k
 unfold lockkeeperlaw0_Long.f
 repeat' first
   | (with_reducible exact ih0 _ _ _)
   | (with_reducible exact LeO.refl _)
   | (with_reducible exact LeO.none _)
   | (with_reducible refine LeO.ite ?_ ?_)
   | (with_reducible refine LeO.bind ?_ (fun _ => ?_))
   | exact ih0 _ _ _
   | exact LeO.none _
   | refine LeO.ite ?_ ?_
   | refine LeO.bind ?_ (fun _ => ?_)
set_option maxHeartbeats 8000000 in
set_option maxRecDepth 100000 in
theorem lockkeeperlaw0_Long.calls (k : Nat) (a0 : Int) (A1 : Option Addr) (c1 : Nat) (l1 : List ByteArray) (r : Bool) (w : World) (hr1 : Kd.C Kd.string w A1 l1.length l1) (hc1 : l1.length ≤ c1) (h : lockkeeperlaw0_Long.f k a0 l1 = some r) :
  Calls Tryd.prog 17 #[.int .i64 a0,.slice A1 l1.length c1] w fun e w' => e = .returned (.bool r) ∧ Drawn0 w w':=by
 have HR1:=Aside0.mk hr1
 have HC1:=Aside0.mk hc1
 clear hr1 hc1
 have H : (lockkeeperlaw0_Long.l0 k a0 l1 0) = some r:=h
 clear h
 have H':=Aside0.mk H
 clear H
 go_enter Tryd.func17,Tryd.ntmps17
 go_wp2
 go_loopg [0,5] k (fun kq v0 v5 w' => ∃ (x0_1 : Int) (x5_1 : Int),v0 = .int .i64 x0_1 ∧ v5 = .int .i64 x5_1 ∧ Aside0 (lockkeeperlaw0_Long.l0 kq x0_1 l1 x5_1 = some r) ∧ Aside0 (kq ≤ k) ∧ Drawn0 w w')
 case atStart => exact ⟨(a0),(0),(by first|rfl|(simp;done)|(simp [*];done)),(by first|rfl|(simp;done)|(simp [*];done)),H',⟨Nat.le_refl _⟩,by repeat (first|exact Drawn0.refl _|apply Drawn0.step)⟩
 case round =>
  clear H'
  try clear c1
  try clear p2
  obtain ⟨x0_1,x5_1,rfl,rfl,HA,HK1,⟨m1,rfl⟩⟩:=hrel
  cases gk with
  | zero => exact absurd HA.out (by simp [lockkeeperlaw0_Long.l0])
  | succ k1 =>
   have H:=HA.out
   clear HA
   simp only [lockkeeperlaw0_Long.l0] at H
   by_cases c3 : x5_1 < (l1.length : Int)
   ·rw [if_pos c3] at H
    have c3b0 : decide (x5_1 < (l1.length : Int)) = true:=decide_eq_true c3
    clear c3
    by_cases c4 : 0 ≤ x5_1
    ·rw [if_pos c4] at H
     have c4b0 : decide (0 ≤ x5_1) = true:=decide_eq_true c4
     clear c4
     by_cases c5 : ((rdOf ByteArray.empty l1 x5_1).size : Int) ≥ x0_1
     ·rw [if_pos c5] at H
      have c5b0 : decide (x0_1 ≤ ((rdOf ByteArray.empty l1 x5_1).size : Int)) = true:=decide_eq_true c5
      clear c5
      obtain rfl:=Option.some.inj H
      have p101 : 0 ≤ (x5_1 : Int):=of_decide_eq_true (by first|(with_reducible assumption)|assumption)
      have q101 : x5_1 < (l1.length : Int):=of_decide_eq_true (by first|(with_reducible assumption)|assumption)
      obtain ⟨ad101,e101,hx101_0⟩:=Kd.at_string HR1.out x5_1 p101 q101
      cases e101
      replace p101:=eq_true p101
      replace q101:=eq_true q101
      go_wp2
      go_ret
      exact ⟨by first|rfl|(simp;done)|(simp [*];done)|(simp [*];generalize ByteArray.toList _ = l_;cases l_ <;> rfl),by repeat (first|exact Drawn0.refl _|apply Drawn0.step)⟩
     ·rw [if_neg c5] at H
      have c5b0 : decide (x0_1 ≤ ((rdOf ByteArray.empty l1 x5_1).size : Int)) = false:=decide_eq_false c5
      clear c5
      have H':=Aside0.mk H
      clear H
      have p101 : 0 ≤ (x5_1 : Int):=of_decide_eq_true (by first|(with_reducible assumption)|assumption)
      have q101 : x5_1 < (l1.length : Int):=of_decide_eq_true (by first|(with_reducible assumption)|assumption)
      obtain ⟨ad101,e101,hx101_0⟩:=Kd.at_string HR1.out x5_1 p101 q101
      cases e101
      replace p101:=eq_true p101
      replace q101:=eq_true q101
      have p102 : 0 ≤ (x5_1 : Int):=of_decide_eq_true (by first|(with_reducible assumption)|assumption)
      have q102 : x5_1 < (l1.length : Int):=of_decide_eq_true (by first|(with_reducible assumption)|assumption)
      obtain ⟨ad102,e102,hx102_0⟩:=Kd.at_string HR1.out x5_1 p102 q102
      obtain rfl : ad101 = ad102:=(by injection e102)
      replace p102:=eq_true p102
      replace q102:=eq_true q102
      go_wp2
      go_roundg k1
      case measure => have:=HK1.out;omega
      case rel => exact ⟨(wrap64 ((wrap64 (x0_1 - ((rdOf ByteArray.empty l1 x5_1).size : Int))) - 1)),(wrap64 (x5_1 + 1)),(by first|rfl|(simp;done)|(simp [*];done)),(by first|rfl|(simp;done)|(simp [*];done)),H',⟨by have:=HK1.out;omega⟩,by repeat (first|exact Drawn0.refl _|apply Drawn0.step)⟩
    ·rw [if_neg c4] at H
     exact absurd H (by simp)
   ·rw [if_neg c3] at H
    have c3b0 : decide (x5_1 < (l1.length : Int)) = false:=decide_eq_false c3
    clear c3
    obtain rfl:=Option.some.inj H
    go_wp2
    go_ret
    exact ⟨by first|rfl|(simp;done)|(simp [*];done)|(simp [*];generalize ByteArray.toList _ = l_;cases l_ <;> rfl),by repeat (first|exact Drawn0.refl _|apply Drawn0.step)⟩

/-! ### origin_Default: function 27 -/
def origin_Default.f (a0 : ByteArray) : Option (Int):=if a0.toList = ([104,116,116,112] : List UInt8) then (some 80) else (if a0.toList = ([104,116,116,112,115] : List UInt8) then (some 443) else (some 0))
set_option maxHeartbeats 8000000 in
set_option maxRecDepth 100000 in
theorem origin_Default.calls (a0 : ByteArray) (r : Int) (w : World) (h : origin_Default.f a0 = some r) :
  Calls Tryd.prog 27 #[.string a0] w fun e w' => e = .returned (.int .i64 r) ∧ Drawn0 w w':=by
 have H : (if a0.toList = ([104,116,116,112] : List UInt8) then (some 80) else (if a0.toList = ([104,116,116,112,115] : List UInt8) then (some 443) else (some 0))) = some r:=h
 clear h
 by_cases c2 : a0.toList = ([104,116,116,112] : List UInt8)
 ·rw [if_pos c2] at H
  have c2b0 : (a0.toList == ([104,116,116,112] : List UInt8)) = true:=beq_iff_eq.mpr c2
  have c2b1 : (a0.toList != ([104,116,116,112] : List UInt8)) = false:=bne_eq_false_iff_eq.mpr c2
  clear c2
  obtain rfl:=Option.some.inj H
  go_enter Tryd.func27,Tryd.ntmps27
  go_wp2
  go_ret
  exact ⟨by first|rfl|(simp;done)|(simp [*];done)|(simp [*];generalize ByteArray.toList _ = l_;cases l_ <;> rfl),by repeat (first|exact Drawn0.refl _|apply Drawn0.step)⟩
 ·rw [if_neg c2] at H
  have c2b0 : (a0.toList == ([104,116,116,112] : List UInt8)) = false:=beq_eq_false_iff_ne.mpr c2
  have c2b1 : (a0.toList != ([104,116,116,112] : List UInt8)) = true:=bne_iff_ne.mpr c2
  by_cases c3 : a0.toList = ([104,116,116,112,115] : List UInt8)
  ·rw [if_pos c3] at H
   have c3b0 : (a0.toList == ([104,116,116,112,115] : List UInt8)) = true:=beq_iff_eq.mpr c3
   have c3b1 : (a0.toList != ([104,116,116,112,115] : List UInt8)) = false:=bne_eq_false_iff_eq.mpr c3
   clear c3
   obtain rfl:=Option.some.inj H
   go_enter Tryd.func27,Tryd.ntmps27
   go_wp2
   go_ret
   exact ⟨by first|rfl|(simp;done)|(simp [*];done)|(simp [*];generalize ByteArray.toList _ = l_;cases l_ <;> rfl),by repeat (first|exact Drawn0.refl _|apply Drawn0.step)⟩
  ·rw [if_neg c3] at H
   have c3b0 : (a0.toList == ([104,116,116,112,115] : List UInt8)) = false:=beq_eq_false_iff_ne.mpr c3
   have c3b1 : (a0.toList != ([104,116,116,112,115] : List UInt8)) = true:=bne_iff_ne.mpr c3
   obtain rfl:=Option.some.inj H
   go_enter Tryd.func27,Tryd.ntmps27
   go_wp2
   go_ret
   exact ⟨by first|rfl|(simp;done)|(simp [*];done)|(simp [*];generalize ByteArray.toList _ = l_;cases l_ <;> rfl),by repeat (first|exact Drawn0.refl _|apply Drawn0.step)⟩

/-! ### origin_isLabel: function 68 -/
mutual
def origin_isLabel.j0 : Nat → ByteArray → Bool → Option (Bool)
 | 0,_,_ => none
 | k + 1,x0,x25 => if x25 = true then (some false) else (origin_isLabel.l0 k x0 (x0.size : Int) 0)
def origin_isLabel.l0 : Nat → ByteArray → Int → Int → Option (Bool)
 | 0,_,_,_ => none
 | k + 1,x0,x27,x28 => if x28 < x27 then (if 0 ≤ x28 then (if x28 < (x0.size : Int) then (if (bt x0 x28) < 97 then (if (bt x0 x28) < 48 then (if (bt x0 x28) = 45 then (origin_isLabel.l0 k x0 x27 (wrap64 (x28 + 1))) else (some false)) else (if (bt x0 x28) > 57 then (if (bt x0 x28) = 45 then (origin_isLabel.l0 k x0 x27 (wrap64 (x28 + 1))) else (some false)) else (origin_isLabel.l0 k x0 x27 (wrap64 (x28 + 1))))) else (if (bt x0 x28) > 122 then (if (bt x0 x28) < 48 then (if (bt x0 x28) = 45 then (origin_isLabel.l0 k x0 x27 (wrap64 (x28 + 1))) else (some false)) else (if (bt x0 x28) > 57 then (if (bt x0 x28) = 45 then (origin_isLabel.l0 k x0 x27 (wrap64 (x28 + 1))) else (some false)) else (origin_isLabel.l0 k x0 x27 (wrap64 (x28 + 1))))) else (origin_isLabel.l0 k x0 x27 (wrap64 (x28 + 1))))) else (none)) else (none)) else (some true)
end
def origin_isLabel.f (k : Nat) (a0 : ByteArray) : Option (Bool):=if (a0.size : Int) < 1 then (origin_isLabel.j0 k a0 true) else (if (a0.size : Int) > 63 then (origin_isLabel.j0 k a0 true) else (if 0 < (a0.size : Int) then (if (bt a0 0) = 45 then (origin_isLabel.j0 k a0 true) else (if 0 ≤ (wrap64 ((a0.size : Int) - 1)) then (if (wrap64 ((a0.size : Int) - 1)) < (a0.size : Int) then (origin_isLabel.j0 k a0 ((bt a0 (wrap64 ((a0.size : Int) - 1))) == 45)) else (none)) else (none))) else (none)))
theorem origin_isLabel.mono_l : ∀ k,(∀ y0 y1,LeO (origin_isLabel.j0 k y0 y1) (origin_isLabel.j0 (k + 1) y0 y1)) ∧ (∀ y0 y1 y2,LeO (origin_isLabel.l0 k y0 y1 y2) (origin_isLabel.l0 (k + 1) y0 y1 y2))
 | 0 => ⟨fun _ _ r h => by simp [origin_isLabel.j0] at h,fun _ _ _ r h => by simp [origin_isLabel.l0] at h⟩
 | k + 1 => by
  obtain ⟨ih0,ih1⟩:=origin_isLabel.mono_l k
  refine ⟨?_,?_⟩
  ·intro y0 y1
   unfold origin_isLabel.j0
   repeat' first
   | (with_reducible exact ih0 _ _)
   | (with_reducible exact ih1 _ _ _)
   | (with_reducible exact LeO.refl _)
   | (with_reducible exact LeO.none _)
   | (with_reducible refine LeO.ite ?_ ?_)
   | (with_reducible refine LeO.bind ?_ (fun _ => ?_))
   | exact ih0 _ _
   | exact ih1 _ _ _
   | exact LeO.none _
   | refine LeO.ite ?_ ?_
   | refine LeO.bind ?_ (fun _ => ?_)
  ·intro y0 y1 y2
   unfold origin_isLabel.l0
   repeat' first
   | (with_reducible exact ih0 _ _)
   | (with_reducible exact ih1 _ _ _)
   | (with_reducible exact LeO.refl _)
   | (with_reducible exact LeO.none _)
   | (with_reducible refine LeO.ite ?_ ?_)
   | (with_reducible refine LeO.bind ?_ (fun _ => ?_))
   | exact ih0 _ _
   | exact ih1 _ _ _
   | exact LeO.none _
   | refine LeO.ite ?_ ?_
   | refine LeO.bind ?_ (fun _ => ?_)
theorem origin_isLabel.mono : ∀ a0 k,LeO (origin_isLabel.f k a0) (origin_isLabel.f (k + 1) a0):=by
 intro a0 k
 obtain ⟨ih0,ih1⟩:=origin_isLabel.mono_l k
 unfold origin_isLabel.f
 repeat' first
   | (with_reducible exact ih0 _ _)
   | (with_reducible exact ih1 _ _ _)
   | (with_reducible exact LeO.refl _)
   | (with_reducible exact LeO.none _)
   | (with_reducible refine LeO.ite ?_ ?_)
   | (with_reducible refine LeO.bind ?_ (fun _ => ?_))
   | exact ih0 _ _
   | exact ih1 _ _ _
   | exact LeO.none _
   | refine LeO.ite ?_ ?_
   | refine LeO.bind ?_ (fun _ => ?_)
set_option maxHeartbeats 8000000 in
set_option maxRecDepth 100000 in
theorem origin_isLabel.calls (k : Nat) (a0 : ByteArray) (r : Bool) (w : World) (h : origin_isLabel.f k a0 = some r) :
  Calls Tryd.prog 68 #[.string a0] w fun e w' => e = .returned (.bool r) ∧ Drawn0 w w':=by
 have H : (if (a0.size : Int) < 1 then (origin_isLabel.j0 k a0 true) else (if (a0.size : Int) > 63 then (origin_isLabel.j0 k a0 true) else (if 0 < (a0.size : Int) then (if (bt a0 0) = 45 then (origin_isLabel.j0 k a0 true) else (if 0 ≤ (wrap64 ((a0.size : Int) - 1)) then (if (wrap64 ((a0.size : Int) - 1)) < (a0.size : Int) then (origin_isLabel.j0 k a0 ((bt a0 (wrap64 ((a0.size : Int) - 1))) == 45)) else (none)) else (none))) else (none)))) = some r:=h
 clear h
 have HC2:=Aside0.mk H
 clear H
 go_enter Tryd.func68,Tryd.ntmps68
 go_upto_region 1 with (fail)
 go_cut [25] (fun v25 wc => ∃ (kq : Nat) (x25_1 : Bool),v25 = .bool x25_1 ∧ Aside0 (origin_isLabel.j0 kq a0 x25_1 = some r) ∧ Aside0 (kq ≤ k) ∧ Drawn0 w wc)
 case first =>
  have H:=HC2.out
  clear HC2
  by_cases c3 : (a0.size : Int) < 1
  ·rw [if_pos c3] at H
   have c3b0 : decide ((a0.size : Int) < 1) = true:=decide_eq_true c3
   have c3b1 : decide (a0.size < 1) = true:=decide_eq_true (by omega)
   clear c3
   (first|rw [c3b0]|(simp only [i64_w,i32_w];rw [c3b0])|skip)
   have H':=Aside0.mk H
   clear H
   go_wp2
   go_meet
   case rel => exact ⟨_,(true),(by first|rfl|(simp;done)|(simp [*];done)),H',⟨by first|omega|exact Nat.le_refl _⟩,by repeat (first|exact Drawn0.refl _|apply Drawn0.step)⟩
  ·rw [if_neg c3] at H
   have c3b0 : decide ((a0.size : Int) < 1) = false:=decide_eq_false c3
   have c3b1 : decide (a0.size < 1) = false:=decide_eq_false (by omega)
   clear c3
   (first|rw [c3b0]|(simp only [i64_w,i32_w];rw [c3b0])|skip)
   by_cases c4 : (a0.size : Int) > 63
   ·rw [if_pos c4] at H
    have c4b0 : decide (63 < (a0.size : Int)) = true:=decide_eq_true c4
    have c4b1 : decide (63 < a0.size) = true:=decide_eq_true (by omega)
    clear c4
    have H':=Aside0.mk H
    clear H
    go_wp2
    go_meet
    case rel => exact ⟨_,(true),(by first|rfl|(simp;done)|(simp [*];done)),H',⟨by first|omega|exact Nat.le_refl _⟩,by repeat (first|exact Drawn0.refl _|apply Drawn0.step)⟩
   ·rw [if_neg c4] at H
    have c4b0 : decide (63 < (a0.size : Int)) = false:=decide_eq_false c4
    have c4b1 : decide (63 < a0.size) = false:=decide_eq_false (by omega)
    clear c4
    by_cases c5 : 0 < (a0.size : Int)
    ·rw [if_pos c5] at H
     have c5b0 : decide (0 < (a0.size : Int)) = true:=decide_eq_true c5
     have c5b1 : decide (0 < a0.size) = true:=decide_eq_true (by omega)
     clear c5
     by_cases c7 : (bt a0 0) = 45
     ·rw [if_pos c7] at H
      have c7b0 : ((bt a0 0) == 45) = true:=beq_iff_eq.mpr c7
      have c7b1 : ((bt a0 0) != 45) = false:=bne_eq_false_iff_eq.mpr c7
      clear c7
      have H':=Aside0.mk H
      clear H
      have p6 : 0 ≤ (0 : Int):=(by omega)
      have q6 : 0 < a0.size:=(by have : (0 : Int) < (a0.size : Int):=of_decide_eq_true (by first|(with_reducible assumption)|assumption);omega)
      have hx6 : ∀ h : 0 < a0.size,((a0[0]'h).toNat : Int) = bt a0 0:=bt_at a0 0
      clear p6
      have qi6 : (0 < (a0.size : Int)) = True:=eq_true (of_decide_eq_true (by first|(with_reducible assumption)|assumption))
      replace q6:=eq_true q6
      go_wp2
      go_meet
      case rel => exact ⟨_,(true),(by first|rfl|(simp;done)|(simp [*];done)),H',⟨by first|omega|exact Nat.le_refl _⟩,by repeat (first|exact Drawn0.refl _|apply Drawn0.step)⟩
     ·rw [if_neg c7] at H
      have c7b0 : ((bt a0 0) == 45) = false:=beq_eq_false_iff_ne.mpr c7
      have c7b1 : ((bt a0 0) != 45) = true:=bne_iff_ne.mpr c7
      obtain ⟨ji8,hji8⟩ : ∃ j_ : Int,(wrap64 ((a0.size : Int) - 1)) = j_:=⟨_,rfl⟩
      replace H : (if 0 ≤ (ji8) then (if (ji8) < (a0.size : Int) then (origin_isLabel.j0 k a0 ((bt a0 (ji8)) == 45)) else (none)) else (none)) = some r:=by first|(rw [hji8] at H;exact H)|(simp only [hji8] at H ⊢;exact H)
      have hji8w : (IntKind.i64.wrap ((a0.size : Int) - 1)) = ji8:=(i64_w _).trans hji8
      by_cases c9 : 0 ≤ (ji8)
      ·rw [if_pos c9] at H
       have c9b0 : decide (0 ≤ (ji8)) = true:=decide_eq_true c9
       clear c9
       by_cases c10 : (ji8) < (a0.size : Int)
       ·rw [if_pos c10] at H
        have c10b0 : decide ((ji8) < (a0.size : Int)) = true:=decide_eq_true c10
        clear c10
        have H':=Aside0.mk H
        clear H
        have p6 : 0 ≤ (0 : Int):=(by omega)
        have q6 : 0 < a0.size:=(by have : (0 : Int) < (a0.size : Int):=of_decide_eq_true (by first|(with_reducible assumption)|assumption);omega)
        have hx6 : ∀ h : 0 < a0.size,((a0[0]'h).toNat : Int) = bt a0 0:=bt_at a0 0
        clear p6
        have qi6 : (0 < (a0.size : Int)) = True:=eq_true (of_decide_eq_true (by first|(with_reducible assumption)|assumption))
        replace q6:=eq_true q6
        have p11 : 0 ≤ ((ji8) : Int):=of_decide_eq_true (by first|(with_reducible assumption)|assumption)
        have q11 : (ji8) < (a0.size : Int):=of_decide_eq_true (by first|(with_reducible assumption)|assumption)
        have hx11:=bt_at a0 (ji8)
        replace p11:=eq_true p11
        replace q11:=eq_true q11
        go_wp2
        go_meet
        case rel => exact ⟨_,(((bt a0 (ji8)) == 45)),(by first|rfl|(simp;done)|(simp only [← hji8] <;> (first|rfl|simp))|(simp [*];done)),H',⟨by first|omega|exact Nat.le_refl _⟩,by repeat (first|exact Drawn0.refl _|apply Drawn0.step)⟩
       ·rw [if_neg c10] at H
        exact absurd H (by simp)
      ·rw [if_neg c9] at H
       exact absurd H (by simp)
    ·rw [if_neg c5] at H
     exact absurd H (by simp)
 case rest =>
  clear HC2
  try clear c1
  try clear p1
  try clear q1
  try clear hx1
  try clear p2
  try clear c3
  try clear c3b0
  try clear c3b1
  try clear c4
  try clear c4b0
  try clear c4b1
  try clear c5
  try clear c5b0
  try clear c5b1
  try clear c6
  try clear p6
  try clear q6
  try clear hx6
  try clear qi6
  try clear c7
  try clear c7b0
  try clear c7b1
  try clear c9
  try clear c9b0
  try clear c10
  try clear c10b0
  try clear p11
  try clear q11
  try clear hx11
  try clear p11
  try clear p6
  try clear q11
  try clear q6
  obtain ⟨kq,x25_1,rfl,HA,HJ1,⟨mc1,rfl⟩⟩:=hcut
  cases kq with
  | zero => exact absurd HA.out (by simp [origin_isLabel.j0])
  | succ kj1 =>
   have H:=HA.out
   clear HA
   simp only [origin_isLabel.j0] at H
   by_cases c12 : x25_1 = true
   ·subst c12
    have H1 : (some false) = some r:=by rw [if_pos rfl] at H;exact H
    clear H
    have H:=H1
    clear H1
    obtain rfl:=Option.some.inj H
    go_wp2
    go_ret
    exact ⟨by first|rfl|(simp;done)|(simp [*];done)|(simp [*];generalize ByteArray.toList _ = l_;cases l_ <;> rfl),by repeat (first|exact Drawn0.refl _|apply Drawn0.step)⟩
   ·replace c12:=Bool.eq_false_iff.mpr c12
    subst c12
    have H1 : (origin_isLabel.l0 kj1 a0 (a0.size : Int) 0) = some r:=by rw [if_neg (show ¬ (false = true) by decide)] at H;exact H
    clear H
    have H:=H1
    clear H1
    have H':=Aside0.mk H
    clear H
    go_wp2
    go_loopg [28] kj1 (fun kq v28 w' => ∃ (x28_2 : Int),v28 = .int .i64 x28_2 ∧ Aside0 (origin_isLabel.l0 kq a0 (a0.size : Int) x28_2 = some r) ∧ Aside0 (kq ≤ kj1) ∧ Drawn0 w w')
    case atStart => exact ⟨(0),(by first|rfl|(simp;done)|(simp [*];done)),H',⟨Nat.le_refl _⟩,by repeat (first|exact Drawn0.refl _|apply Drawn0.step)⟩
    case round =>
     clear H'
     try clear c1
     try clear p1
     try clear q1
     try clear hx1
     try clear p2
     try clear c3
     try clear c3b0
     try clear c3b1
     try clear c4
     try clear c4b0
     try clear c4b1
     try clear c5
     try clear c5b0
     try clear c5b1
     try clear c6
     try clear p6
     try clear q6
     try clear hx6
     try clear qi6
     try clear c7
     try clear c7b0
     try clear c7b1
     try clear c9
     try clear c9b0
     try clear c10
     try clear c10b0
     try clear p11
     try clear q11
     try clear hx11
     try clear c12
     try clear p1
     try clear p11
     try clear p2
     try clear p6
     try clear q1
     try clear q11
     try clear q6
     obtain ⟨x28_2,rfl,HA,HK2,⟨m2,rfl⟩⟩:=hrel
     cases gk with
     | zero => exact absurd HA.out (by simp [origin_isLabel.l0])
     | succ k2 =>
      have H:=HA.out
      clear HA
      simp only [origin_isLabel.l0] at H
      by_cases c13 : x28_2 < (a0.size : Int)
      ·rw [if_pos c13] at H
       have c13b0 : decide (x28_2 < (a0.size : Int)) = true:=decide_eq_true c13
       clear c13
       by_cases c14 : 0 ≤ x28_2
       ·rw [if_pos c14] at H
        have c14b0 : decide (0 ≤ x28_2) = true:=decide_eq_true c14
        clear c14
        by_cases c15 : x28_2 < (a0.size : Int)
        ·rw [if_pos c15] at H
         have c15b0 : decide (x28_2 < (a0.size : Int)) = true:=decide_eq_true c15
         clear c15
         by_cases c17 : (bt a0 x28_2) < 97
         ·rw [if_pos c17] at H
          have c17b0 : decide ((bt a0 x28_2) < 97) = true:=decide_eq_true c17
          clear c17
          by_cases c18 : (bt a0 x28_2) < 48
          ·rw [if_pos c18] at H
           have c18b0 : decide ((bt a0 x28_2) < 48) = true:=decide_eq_true c18
           clear c18
           by_cases c19 : (bt a0 x28_2) = 45
           ·rw [if_pos c19] at H
            have c19b0 : ((bt a0 x28_2) == 45) = true:=beq_iff_eq.mpr c19
            have c19b1 : ((bt a0 x28_2) != 45) = false:=bne_eq_false_iff_eq.mpr c19
            clear c19
            have H':=Aside0.mk H
            clear H
            have p16 : 0 ≤ (x28_2 : Int):=of_decide_eq_true (by first|(with_reducible assumption)|assumption)
            have q16 : x28_2 < (a0.size : Int):=of_decide_eq_true (by first|(with_reducible assumption)|assumption)
            have hx16:=bt_at a0 x28_2
            replace p16:=eq_true p16
            replace q16:=eq_true q16
            go_wp2
            go_roundg k2
            case measure => have:=HJ1.out;have:=HK2.out;omega
            case rel => exact ⟨(wrap64 (x28_2 + 1)),(by first|rfl|(simp;done)|(simp [*];done)),H',⟨by have:=HJ1.out;have:=HK2.out;omega⟩,by repeat (first|exact Drawn0.refl _|apply Drawn0.step)⟩
           ·rw [if_neg c19] at H
            have c19b0 : ((bt a0 x28_2) == 45) = false:=beq_eq_false_iff_ne.mpr c19
            have c19b1 : ((bt a0 x28_2) != 45) = true:=bne_iff_ne.mpr c19
            obtain rfl:=Option.some.inj H
            have p16 : 0 ≤ (x28_2 : Int):=of_decide_eq_true (by first|(with_reducible assumption)|assumption)
            have q16 : x28_2 < (a0.size : Int):=of_decide_eq_true (by first|(with_reducible assumption)|assumption)
            have hx16:=bt_at a0 x28_2
            replace p16:=eq_true p16
            replace q16:=eq_true q16
            go_wp2
            go_ret
            exact ⟨by first|rfl|(simp;done)|(simp [*];done)|(simp [*];generalize ByteArray.toList _ = l_;cases l_ <;> rfl),by repeat (first|exact Drawn0.refl _|apply Drawn0.step)⟩
          ·rw [if_neg c18] at H
           have c18b0 : decide ((bt a0 x28_2) < 48) = false:=decide_eq_false c18
           clear c18
           by_cases c20 : (bt a0 x28_2) > 57
           ·rw [if_pos c20] at H
            have c20b0 : decide (57 < (bt a0 x28_2)) = true:=decide_eq_true c20
            clear c20
            by_cases c21 : (bt a0 x28_2) = 45
            ·rw [if_pos c21] at H
             have c21b0 : ((bt a0 x28_2) == 45) = true:=beq_iff_eq.mpr c21
             have c21b1 : ((bt a0 x28_2) != 45) = false:=bne_eq_false_iff_eq.mpr c21
             clear c21
             have H':=Aside0.mk H
             clear H
             have p16 : 0 ≤ (x28_2 : Int):=of_decide_eq_true (by first|(with_reducible assumption)|assumption)
             have q16 : x28_2 < (a0.size : Int):=of_decide_eq_true (by first|(with_reducible assumption)|assumption)
             have hx16:=bt_at a0 x28_2
             replace p16:=eq_true p16
             replace q16:=eq_true q16
             go_wp2
             go_roundg k2
             case measure => have:=HJ1.out;have:=HK2.out;omega
             case rel => exact ⟨(wrap64 (x28_2 + 1)),(by first|rfl|(simp;done)|(simp [*];done)),H',⟨by have:=HJ1.out;have:=HK2.out;omega⟩,by repeat (first|exact Drawn0.refl _|apply Drawn0.step)⟩
            ·rw [if_neg c21] at H
             have c21b0 : ((bt a0 x28_2) == 45) = false:=beq_eq_false_iff_ne.mpr c21
             have c21b1 : ((bt a0 x28_2) != 45) = true:=bne_iff_ne.mpr c21
             obtain rfl:=Option.some.inj H
             have p16 : 0 ≤ (x28_2 : Int):=of_decide_eq_true (by first|(with_reducible assumption)|assumption)
             have q16 : x28_2 < (a0.size : Int):=of_decide_eq_true (by first|(with_reducible assumption)|assumption)
             have hx16:=bt_at a0 x28_2
             replace p16:=eq_true p16
             replace q16:=eq_true q16
             go_wp2
             go_ret
             exact ⟨by first|rfl|(simp;done)|(simp [*];done)|(simp [*];generalize ByteArray.toList _ = l_;cases l_ <;> rfl),by repeat (first|exact Drawn0.refl _|apply Drawn0.step)⟩
           ·rw [if_neg c20] at H
            have c20b0 : decide (57 < (bt a0 x28_2)) = false:=decide_eq_false c20
            clear c20
            have H':=Aside0.mk H
            clear H
            have p16 : 0 ≤ (x28_2 : Int):=of_decide_eq_true (by first|(with_reducible assumption)|assumption)
            have q16 : x28_2 < (a0.size : Int):=of_decide_eq_true (by first|(with_reducible assumption)|assumption)
            have hx16:=bt_at a0 x28_2
            replace p16:=eq_true p16
            replace q16:=eq_true q16
            go_wp2
            go_roundg k2
            case measure => have:=HJ1.out;have:=HK2.out;omega
            case rel => exact ⟨(wrap64 (x28_2 + 1)),(by first|rfl|(simp;done)|(simp [*];done)),H',⟨by have:=HJ1.out;have:=HK2.out;omega⟩,by repeat (first|exact Drawn0.refl _|apply Drawn0.step)⟩
         ·rw [if_neg c17] at H
          have c17b0 : decide ((bt a0 x28_2) < 97) = false:=decide_eq_false c17
          clear c17
          by_cases c22 : (bt a0 x28_2) > 122
          ·rw [if_pos c22] at H
           have c22b0 : decide (122 < (bt a0 x28_2)) = true:=decide_eq_true c22
           clear c22
           by_cases c23 : (bt a0 x28_2) < 48
           ·rw [if_pos c23] at H
            have c23b0 : decide ((bt a0 x28_2) < 48) = true:=decide_eq_true c23
            clear c23
            by_cases c24 : (bt a0 x28_2) = 45
            ·rw [if_pos c24] at H
             have c24b0 : ((bt a0 x28_2) == 45) = true:=beq_iff_eq.mpr c24
             have c24b1 : ((bt a0 x28_2) != 45) = false:=bne_eq_false_iff_eq.mpr c24
             clear c24
             have H':=Aside0.mk H
             clear H
             have p16 : 0 ≤ (x28_2 : Int):=of_decide_eq_true (by first|(with_reducible assumption)|assumption)
             have q16 : x28_2 < (a0.size : Int):=of_decide_eq_true (by first|(with_reducible assumption)|assumption)
             have hx16:=bt_at a0 x28_2
             replace p16:=eq_true p16
             replace q16:=eq_true q16
             go_wp2
             go_roundg k2
             case measure => have:=HJ1.out;have:=HK2.out;omega
             case rel => exact ⟨(wrap64 (x28_2 + 1)),(by first|rfl|(simp;done)|(simp [*];done)),H',⟨by have:=HJ1.out;have:=HK2.out;omega⟩,by repeat (first|exact Drawn0.refl _|apply Drawn0.step)⟩
            ·rw [if_neg c24] at H
             have c24b0 : ((bt a0 x28_2) == 45) = false:=beq_eq_false_iff_ne.mpr c24
             have c24b1 : ((bt a0 x28_2) != 45) = true:=bne_iff_ne.mpr c24
             obtain rfl:=Option.some.inj H
             have p16 : 0 ≤ (x28_2 : Int):=of_decide_eq_true (by first|(with_reducible assumption)|assumption)
             have q16 : x28_2 < (a0.size : Int):=of_decide_eq_true (by first|(with_reducible assumption)|assumption)
             have hx16:=bt_at a0 x28_2
             replace p16:=eq_true p16
             replace q16:=eq_true q16
             go_wp2
             go_ret
             exact ⟨by first|rfl|(simp;done)|(simp [*];done)|(simp [*];generalize ByteArray.toList _ = l_;cases l_ <;> rfl),by repeat (first|exact Drawn0.refl _|apply Drawn0.step)⟩
           ·rw [if_neg c23] at H
            have c23b0 : decide ((bt a0 x28_2) < 48) = false:=decide_eq_false c23
            clear c23
            by_cases c25 : (bt a0 x28_2) > 57
            ·rw [if_pos c25] at H
             have c25b0 : decide (57 < (bt a0 x28_2)) = true:=decide_eq_true c25
             clear c25
             by_cases c26 : (bt a0 x28_2) = 45
             ·rw [if_pos c26] at H
              have c26b0 : ((bt a0 x28_2) == 45) = true:=beq_iff_eq.mpr c26
              have c26b1 : ((bt a0 x28_2) != 45) = false:=bne_eq_false_iff_eq.mpr c26
              clear c26
              have H':=Aside0.mk H
              clear H
              have p16 : 0 ≤ (x28_2 : Int):=of_decide_eq_true (by first|(with_reducible assumption)|assumption)
              have q16 : x28_2 < (a0.size : Int):=of_decide_eq_true (by first|(with_reducible assumption)|assumption)
              have hx16:=bt_at a0 x28_2
              replace p16:=eq_true p16
              replace q16:=eq_true q16
              go_wp2
              go_roundg k2
              case measure => have:=HJ1.out;have:=HK2.out;omega
              case rel => exact ⟨(wrap64 (x28_2 + 1)),(by first|rfl|(simp;done)|(simp [*];done)),H',⟨by have:=HJ1.out;have:=HK2.out;omega⟩,by repeat (first|exact Drawn0.refl _|apply Drawn0.step)⟩
             ·rw [if_neg c26] at H
              have c26b0 : ((bt a0 x28_2) == 45) = false:=beq_eq_false_iff_ne.mpr c26
              have c26b1 : ((bt a0 x28_2) != 45) = true:=bne_iff_ne.mpr c26
              obtain rfl:=Option.some.inj H
              have p16 : 0 ≤ (x28_2 : Int):=of_decide_eq_true (by first|(with_reducible assumption)|assumption)
              have q16 : x28_2 < (a0.size : Int):=of_decide_eq_true (by first|(with_reducible assumption)|assumption)
              have hx16:=bt_at a0 x28_2
              replace p16:=eq_true p16
              replace q16:=eq_true q16
              go_wp2
              go_ret
              exact ⟨by first|rfl|(simp;done)|(simp [*];done)|(simp [*];generalize ByteArray.toList _ = l_;cases l_ <;> rfl),by repeat (first|exact Drawn0.refl _|apply Drawn0.step)⟩
            ·rw [if_neg c25] at H
             have c25b0 : decide (57 < (bt a0 x28_2)) = false:=decide_eq_false c25
             clear c25
             have H':=Aside0.mk H
             clear H
             have p16 : 0 ≤ (x28_2 : Int):=of_decide_eq_true (by first|(with_reducible assumption)|assumption)
             have q16 : x28_2 < (a0.size : Int):=of_decide_eq_true (by first|(with_reducible assumption)|assumption)
             have hx16:=bt_at a0 x28_2
             replace p16:=eq_true p16
             replace q16:=eq_true q16
             go_wp2
             go_roundg k2
             case measure => have:=HJ1.out;have:=HK2.out;omega
             case rel => exact ⟨(wrap64 (x28_2 + 1)),(by first|rfl|(simp;done)|(simp [*];done)),H',⟨by have:=HJ1.out;have:=HK2.out;omega⟩,by repeat (first|exact Drawn0.refl _|apply Drawn0.step)⟩
          ·rw [if_neg c22] at H
           have c22b0 : decide (122 < (bt a0 x28_2)) = false:=decide_eq_false c22
           clear c22
           have H':=Aside0.mk H
           clear H
           have p16 : 0 ≤ (x28_2 : Int):=of_decide_eq_true (by first|(with_reducible assumption)|assumption)
           have q16 : x28_2 < (a0.size : Int):=of_decide_eq_true (by first|(with_reducible assumption)|assumption)
           have hx16:=bt_at a0 x28_2
           replace p16:=eq_true p16
           replace q16:=eq_true q16
           go_wp2
           go_roundg k2
           case measure => have:=HJ1.out;have:=HK2.out;omega
           case rel => exact ⟨(wrap64 (x28_2 + 1)),(by first|rfl|(simp;done)|(simp [*];done)),H',⟨by have:=HJ1.out;have:=HK2.out;omega⟩,by repeat (first|exact Drawn0.refl _|apply Drawn0.step)⟩
        ·rw [if_neg c15] at H
         exact absurd H (by simp)
       ·rw [if_neg c14] at H
        exact absurd H (by simp)
      ·rw [if_neg c13] at H
       have c13b0 : decide (x28_2 < (a0.size : Int)) = false:=decide_eq_false c13
       clear c13
       obtain rfl:=Option.some.inj H
       go_wp2
       go_ret
       exact ⟨by first|rfl|(simp;done)|(simp [*];done)|(simp [*];generalize ByteArray.toList _ = l_;cases l_ <;> rfl),by repeat (first|exact Drawn0.refl _|apply Drawn0.step)⟩

/-! ### origin_isHost: function 49 -/
def origin_isHost.l0 : Nat → List ByteArray → Int → Int → Option (Bool)
 | 0,_,_,_ => none
 | k + 1,x9,x10,x11 => if x11 < x10 then (if 0 ≤ x11 then (if x11 < (x9.length : Int) then ((origin_isLabel.f k (rdOf ByteArray.empty x9 x11)).bind fun t107 => (if t107 = true then (origin_isHost.l0 k x9 x10 (wrap64 (x11 + 1))) else (some false))) else (none)) else (none)) else (some true)
def origin_isHost.f (k : Nat) (a0 : ByteArray) : Option (Bool):=if (a0.size : Int) > 253 then (some false) else ((strings_Split.f a0 (⟨#[46]⟩ : ByteArray)).bind fun t103 => (origin_isHost.l0 k t103 (t103.length : Int) 0))
theorem origin_isHost.mono_l : ∀ k,(∀ y0 y1 y2,LeO (origin_isHost.l0 k y0 y1 y2) (origin_isHost.l0 (k + 1) y0 y1 y2))
 | 0 => fun _ _ _ r h => by simp [origin_isHost.l0] at h
 | k + 1 => by
  have ih0:=origin_isHost.mono_l k
  ·intro y0 y1 y2
   unfold origin_isHost.l0
   repeat' first
   | (with_reducible exact ih0 _ _ _)
   | (with_reducible exact origin_isLabel.mono _ _)
   | (with_reducible exact LeO.refl _)
   | (with_reducible exact LeO.none _)
   | (with_reducible refine LeO.ite ?_ ?_)
   | (with_reducible refine LeO.bind ?_ (fun _ => ?_))
   | exact ih0 _ _ _
   | exact origin_isLabel.mono _ _
   | exact LeO.none _
   | refine LeO.ite ?_ ?_
   | refine LeO.bind ?_ (fun _ => ?_)
theorem origin_isHost.mono : ∀ a0 k,LeO (origin_isHost.f k a0) (origin_isHost.f (k + 1) a0):=by
 intro a0 k
 have ih0:=origin_isHost.mono_l k
 unfold origin_isHost.f
 repeat' first
   | (with_reducible exact ih0 _ _ _)
   | (with_reducible exact origin_isLabel.mono _ _)
   | (with_reducible exact LeO.refl _)
   | (with_reducible exact LeO.none _)
   | (with_reducible refine LeO.ite ?_ ?_)
   | (with_reducible refine LeO.bind ?_ (fun _ => ?_))
   | exact ih0 _ _ _
   | exact origin_isLabel.mono _ _
   | exact LeO.none _
   | refine LeO.ite ?_ ?_
   | refine LeO.bind ?_ (fun _ => ?_)
set_option maxHeartbeats 8000000 in
set_option maxRecDepth 100000 in
theorem origin_isHost.calls (k : Nat) (a0 : ByteArray) (r : Bool) (w : World) (h : origin_isHost.f k a0 = some r) :
  Calls Tryd.prog 49 #[.string a0] w fun e w' => e = .returned (.bool r) ∧ Below w.heap.size w w':=by
 have HB:=Aside0.mk (Below.refl w.heap.size w)
 have H : (if (a0.size : Int) > 253 then (some false) else ((strings_Split.f a0 (⟨#[46]⟩ : ByteArray)).bind fun t103 => (origin_isHost.l0 k t103 (t103.length : Int) 0))) = some r:=h
 clear h
 by_cases c2 : (a0.size : Int) > 253
 ·rw [if_pos c2] at H
  have c2b0 : decide (253 < (a0.size : Int)) = true:=decide_eq_true c2
  have c2b1 : decide (253 < a0.size) = true:=decide_eq_true (by omega)
  clear c2
  obtain rfl:=Option.some.inj H
  go_enter Tryd.func49,Tryd.ntmps49
  go_wp2
  go_ret
  exact ⟨by first|rfl|(simp [errW_none,errW_some] <;> rfl)|(simp [*,errW_none,errW_some] <;> rfl),by repeat (first|(with_reducible first|exact HB.out|apply below_alloc|apply pw_below_drewN|apply below_drew1)|exact HB.out)⟩
 ·rw [if_neg c2] at H
  have c2b0 : decide (253 < (a0.size : Int)) = false:=decide_eq_false c2
  have c2b1 : decide (253 < a0.size) = false:=decide_eq_false (by omega)
  clear c2
  replace H:=Option.bind_eq_some_iff.mp H
  obtain ⟨t103,A30,H⟩:=H
  replace H : (origin_isHost.l0 k t103 (t103.length : Int) 0) = some r:=H
  have A3:=Aside0.mk A30
  clear A30
  have H':=Aside0.mk H
  clear H
  go_enter Tryd.func49,Tryd.ntmps49
  go_wp2_with (first|((with_reducible refine gate_callee (f:=58) rfl ?_);refine goesL_ (some 9) rfl rfl Tryd.func58 (by kernel_rfl) rfl #[.string a0,.string (⟨#[46]⟩ : ByteArray)] rfl (by (try simp only [List.map_toArray,List.map_cons,List.map_nil]);first|done|rfl|(simp only [List.length_drop,List.length_take];rfl)) ?_;(with_reducible refine (strings_Split.calls a0 (⟨#[46]⟩ : ByteArray) t103 _ A3.out).mono ?_);rintro e w4 ⟨v104,rfl,ho0,hb⟩;refine ⟨_,rfl,?_⟩;have n0_:=Aside0.mk (Kd.R_lower ho0 (below_size (by repeat (first|(with_reducible first|exact HB.out|apply below_alloc|apply pw_below_drewN|apply below_drew1)|exact HB.out))));have n1_:=Aside0.mk (below_step (by repeat (first|(with_reducible first|exact HB.out|apply below_alloc|apply pw_below_drewN|apply below_drew1)|exact HB.out)) hb);clear HB;have HO105:=n0_;have HB:=n1_;clear n0_ n1_;(try clear hb);(try clear hb2);(try clear hk);(try clear hi);(try clear ho0);obtain ⟨Ao5,co5,eo5⟩:=Kd.R_slice HO105.out;subst eo5))
  go_loopg [11] k (fun kq v11 w' => ∃ (x11_1 : Int),v11 = .int .i64 x11_1 ∧ Aside0 (origin_isHost.l0 kq t103 (t103.length : Int) x11_1 = some r) ∧ Aside0 (kq ≤ k) ∧ Aside0 (Kd.R Kd.string 9 w' w.heap.size (fun _ => True) (.slice Ao5 t103.length co5) t103) ∧ Aside0 (Below w.heap.size w w'))
  case atStart => exact ⟨(0),(by first|rfl|(simp;done)|(simp [*];done)),H',⟨Nat.le_refl _⟩,⟨by (with_reducible repeat (first|apply Kd.R_alloc|apply Kd.R_drewN|apply Kd.R_drew));exact HO105.out⟩,⟨by repeat (first|(with_reducible first|exact HB.out|apply below_alloc|apply pw_below_drewN|apply below_drew1)|exact HB.out)⟩⟩
  case round =>
   clear H'
   try clear c2
   try clear c2b0
   try clear c2b1
   try clear p2
   try clear c4
   try clear c5
   obtain ⟨x11_1,rfl,HA,HK1,HO_9,HB⟩:=hrel
   cases gk with
   | zero => exact absurd HA.out (by simp [origin_isHost.l0])
   | succ k1 =>
    have H:=HA.out
    clear HA
    simp only [origin_isHost.l0] at H
    by_cases c6 : x11_1 < (t103.length : Int)
    ·rw [if_pos c6] at H
     have c6b0 : decide (x11_1 < (t103.length : Int)) = true:=decide_eq_true c6
     clear c6
     by_cases c7 : 0 ≤ x11_1
     ·rw [if_pos c7] at H
      have c7b0 : decide (0 ≤ x11_1) = true:=decide_eq_true c7
      clear c7
      by_cases c8 : x11_1 < (t103.length : Int)
      ·rw [if_pos c8] at H
       have c8b0 : decide (x11_1 < (t103.length : Int)) = true:=decide_eq_true c8
       clear c8
       replace H:=Option.bind_eq_some_iff.mp H
       obtain ⟨t107,A90,H⟩:=H
       replace H : (if t107 = true then (origin_isHost.l0 k1 t103 (t103.length : Int) (wrap64 (x11_1 + 1))) else (some false)) = some r:=H
       have A9:=Aside0.mk A90
       clear A90
       by_cases c10 : t107 = true
       ·subst c10
        have H1 : (origin_isHost.l0 k1 t103 (t103.length : Int) (wrap64 (x11_1 + 1))) = some r:=by rw [if_pos rfl] at H;exact H
        clear H
        have H:=H1
        clear H1
        have H':=Aside0.mk H
        clear H
        have p106 : 0 ≤ (x11_1 : Int):=of_decide_eq_true (by first|(with_reducible assumption)|assumption)
        have q106 : x11_1 < (t103.length : Int):=of_decide_eq_true (by first|(with_reducible assumption)|assumption)
        obtain ⟨ad106,e106,hx106_0⟩:=Kd.at_string (Kd.R_reads' HO_9.out).2.2 x11_1 p106 q106
        cases e106
        replace p106:=eq_true p106
        replace q106:=eq_true q106
        go_wp2_with (first|((with_reducible refine gate_callee (f:=68) rfl ?_);refine goesL_ (some 16) rfl rfl Tryd.func68 (by kernel_rfl) rfl #[.string (rdOf ByteArray.empty t103 x11_1)] rfl (by (try simp only [List.map_toArray,List.map_cons,List.map_nil]);first|done|rfl|(simp only [List.length_drop,List.length_take];rfl)) ?_;(with_reducible refine (origin_isLabel.calls k1 (rdOf ByteArray.empty t103 x11_1) true _ A9.out).mono ?_);rintro e w' ⟨rfl,⟨nd,rfl⟩⟩;refine ⟨_,rfl,?_⟩))
        go_roundg k1
        case measure => have:=HK1.out;omega
        case rel => exact ⟨(wrap64 (x11_1 + 1)),(by first|rfl|(simp;done)|(simp [*];done)),H',⟨by have:=HK1.out;omega⟩,⟨by (with_reducible repeat (first|apply Kd.R_alloc|apply Kd.R_drewN|apply Kd.R_drew));exact HO_9.out⟩,⟨by repeat (first|(with_reducible first|exact HB.out|apply below_alloc|apply pw_below_drewN|apply below_drew1)|exact HB.out)⟩⟩
       ·replace c10:=Bool.eq_false_iff.mpr c10
        subst c10
        have H1 : (some false) = some r:=by rw [if_neg (show ¬ (false = true) by decide)] at H;exact H
        clear H
        have H:=H1
        clear H1
        obtain rfl:=Option.some.inj H
        have p106 : 0 ≤ (x11_1 : Int):=of_decide_eq_true (by first|(with_reducible assumption)|assumption)
        have q106 : x11_1 < (t103.length : Int):=of_decide_eq_true (by first|(with_reducible assumption)|assumption)
        obtain ⟨ad106,e106,hx106_0⟩:=Kd.at_string (Kd.R_reads' HO_9.out).2.2 x11_1 p106 q106
        cases e106
        replace p106:=eq_true p106
        replace q106:=eq_true q106
        go_wp2_with (first|((with_reducible refine gate_callee (f:=68) rfl ?_);refine goesL_ (some 16) rfl rfl Tryd.func68 (by kernel_rfl) rfl #[.string (rdOf ByteArray.empty t103 x11_1)] rfl (by (try simp only [List.map_toArray,List.map_cons,List.map_nil]);first|done|rfl|(simp only [List.length_drop,List.length_take];rfl)) ?_;(with_reducible refine (origin_isLabel.calls k1 (rdOf ByteArray.empty t103 x11_1) false _ A9.out).mono ?_);rintro e w' ⟨rfl,⟨nd,rfl⟩⟩;refine ⟨_,rfl,?_⟩))
        go_ret
        exact ⟨by first|rfl|(simp [errW_none,errW_some] <;> rfl)|(simp [*,errW_none,errW_some] <;> rfl),by repeat (first|(with_reducible first|exact HB.out|apply below_alloc|apply pw_below_drewN|apply below_drew1)|exact HB.out)⟩
      ·rw [if_neg c8] at H
       exact absurd H (by simp)
     ·rw [if_neg c7] at H
      exact absurd H (by simp)
    ·rw [if_neg c6] at H
     have c6b0 : decide (x11_1 < (t103.length : Int)) = false:=decide_eq_false c6
     clear c6
     obtain rfl:=Option.some.inj H
     go_wp2
     go_ret
     exact ⟨by first|rfl|(simp [errW_none,errW_some] <;> rfl)|(simp [*,errW_none,errW_some] <;> rfl),by repeat (first|(with_reducible first|exact HB.out|apply below_alloc|apply pw_below_drewN|apply below_drew1)|exact HB.out)⟩

/-! ### origin_Check: function 21 -/
def origin_Check.f (k : Nat) (a0_0 : ByteArray) (a0_1 : ByteArray) (a0_2 : Int) : Option (Bool):=(origin_Default.f a0_0).bind fun t109 => (if t109 = 0 then (some false) else ((origin_isHost.f k a0_1).bind fun t110 => (if t110 = true then (if a0_2 ≥ 1 then (some (decide (a0_2 ≤ 65535))) else (some false)) else (some false))))
theorem origin_Check.mono : ∀ a0 a1 a2 k,LeO (origin_Check.f k a0 a1 a2) (origin_Check.f (k + 1) a0 a1 a2):=by
 intro a0 a1 a2 k
 unfold origin_Check.f
 repeat' first
   | (with_reducible exact origin_isHost.mono _ _)
   | (with_reducible exact LeO.refl _)
   | (with_reducible exact LeO.none _)
   | (with_reducible refine LeO.ite ?_ ?_)
   | (with_reducible refine LeO.bind ?_ (fun _ => ?_))
   | exact origin_isHost.mono _ _
   | exact LeO.none _
   | refine LeO.ite ?_ ?_
   | refine LeO.bind ?_ (fun _ => ?_)
set_option maxHeartbeats 8000000 in
set_option maxRecDepth 100000 in
theorem origin_Check.calls (k : Nat) (a0_0 : ByteArray) (a0_1 : ByteArray) (a0_2 : Int) (r : Bool) (w : World) (h : origin_Check.f k a0_0 a0_1 a0_2 = some r) :
  Calls Tryd.prog 21 #[.agg #[.string a0_0,.string a0_1,.int .i64 a0_2]] w fun e w' => e = .returned (.bool r) ∧ Below w.heap.size w w':=by
 have hu23:=Tryd.underlying23
 have HB:=Aside0.mk (Below.refl w.heap.size w)
 have H : ((origin_Default.f a0_0).bind fun t109 => (if t109 = 0 then (some false) else ((origin_isHost.f k a0_1).bind fun t110 => (if t110 = true then (if a0_2 ≥ 1 then (some (decide (a0_2 ≤ 65535))) else (some false)) else (some false))))) = some r:=h
 clear h
 replace H:=Option.bind_eq_some_iff.mp H
 obtain ⟨t109,A20,H⟩:=H
 replace H : (if t109 = 0 then (some false) else ((origin_isHost.f k a0_1).bind fun t110 => (if t110 = true then (if a0_2 ≥ 1 then (some (decide (a0_2 ≤ 65535))) else (some false)) else (some false)))) = some r:=H
 have A2:=Aside0.mk A20
 clear A20
 by_cases c3 : t109 = 0
 ·rw [if_pos c3] at H
  have c3b0 : (t109 == 0) = true:=beq_iff_eq.mpr c3
  have c3b1 : (t109 != 0) = false:=bne_eq_false_iff_eq.mpr c3
  clear c3
  obtain rfl:=Option.some.inj H
  go_enter Tryd.func21,Tryd.ntmps21
  go_wp2_with (first|((with_reducible refine gate_dst (N:=1) rfl ?_);refine box_event ?hg (N:=1) ?hd (cs:=#[.string a0_0,.string a0_1,.int .i64 a0_2]) (t:=23) ?hr ?_;(case hd => rfl);(case hg => rfl);(case hr => first|(go_simp;done)|(go_simp;rfl));intro gb108 hg w4 hbox hb;have n0_:=Aside0.mk (below_step (by repeat (first|(with_reducible first|exact HB.out|apply below_alloc|apply pw_below_drewN|apply below_drew1)|exact HB.out)) hb);have n1_:=Aside0.mk (hbox);have n2_:=Aside0.mk ((by rw [hg];exact (below_size (by repeat (first|(with_reducible first|exact HB.out|apply below_alloc|apply pw_below_drewN|apply below_drew1)|exact HB.out))) : w.heap.size ≤ gb108));have n3_:=Aside0.mk ((by rw [hg];exact (below_size (by repeat (first|(with_reducible first|exact HB.out|apply below_alloc|apply pw_below_drewN|apply below_drew1)|exact HB.out))) : w.heap.size ≤ gb108));clear HB;have HB:=n0_;have BK108:=n1_;have GW108:=n2_;have GE108:=n3_;clear n0_ n1_ n2_ n3_;clear hb hbox hg;have hcz5_0 : w4.cell? ⟨gb108,0,none⟩ = some (.string a0_0):=(blk_cell BK108.out 0).trans rfl;have hcz5_1 : w4.cell? ⟨gb108,1,none⟩ = some (.string a0_1):=(blk_cell BK108.out 1).trans rfl;have hcz5_2 : w4.cell? ⟨gb108,2,none⟩ = some (.int .i64 a0_2):=(blk_cell BK108.out 2).trans rfl;have hfz5_0:=blk_frozen BK108.out 0;have hfz5_1:=blk_frozen BK108.out 1;have hfz5_2:=blk_frozen BK108.out 2)|((with_reducible refine gate_callee (f:=27) rfl ?_);refine goesL_ (some 5) rfl rfl Tryd.func27 (by kernel_rfl) rfl #[.string a0_0] rfl (by (try simp only [List.map_toArray,List.map_cons,List.map_nil]);first|done|rfl|(simp only [List.length_drop,List.length_take];rfl)) ?_;(with_reducible refine (origin_Default.calls a0_0 t109 _ A2.out).mono ?_);rintro e w' ⟨rfl,⟨nd,rfl⟩⟩;refine ⟨_,rfl,?_⟩))
  go_ret
  exact ⟨by first|rfl|(simp [errW_none,errW_some] <;> rfl)|(simp [*,errW_none,errW_some] <;> rfl),by repeat (first|(with_reducible first|exact HB.out|apply below_alloc|apply pw_below_drewN|apply below_drew1|refine below_set ?_ GE108.out)|exact HB.out)⟩
 ·rw [if_neg c3] at H
  have c3b0 : (t109 == 0) = false:=beq_eq_false_iff_ne.mpr c3
  have c3b1 : (t109 != 0) = true:=bne_iff_ne.mpr c3
  replace H:=Option.bind_eq_some_iff.mp H
  obtain ⟨t110,A60,H⟩:=H
  replace H : (if t110 = true then (if a0_2 ≥ 1 then (some (decide (a0_2 ≤ 65535))) else (some false)) else (some false)) = some r:=H
  have A6:=Aside0.mk A60
  clear A60
  by_cases c7 : t110 = true
  ·subst c7
   have H1 : (if a0_2 ≥ 1 then (some (decide (a0_2 ≤ 65535))) else (some false)) = some r:=by rw [if_pos rfl] at H;exact H
   clear H
   have H:=H1
   clear H1
   by_cases c8 : a0_2 ≥ 1
   ·rw [if_pos c8] at H
    have c8b0 : decide (1 ≤ a0_2) = true:=decide_eq_true c8
    clear c8
    obtain rfl:=Option.some.inj H
    go_enter Tryd.func21,Tryd.ntmps21
    go_wp2_with (first|((with_reducible refine gate_dst (N:=1) rfl ?_);refine box_event ?hg (N:=1) ?hd (cs:=#[.string a0_0,.string a0_1,.int .i64 a0_2]) (t:=23) ?hr ?_;(case hd => rfl);(case hg => rfl);(case hr => first|(go_simp;done)|(go_simp;rfl));intro gb108 hg w9 hbox hb;have n0_:=Aside0.mk (below_step (by repeat (first|(with_reducible first|exact HB.out|apply below_alloc|apply pw_below_drewN|apply below_drew1)|exact HB.out)) hb);have n1_:=Aside0.mk (hbox);have n2_:=Aside0.mk ((by rw [hg];exact (below_size (by repeat (first|(with_reducible first|exact HB.out|apply below_alloc|apply pw_below_drewN|apply below_drew1)|exact HB.out))) : w.heap.size ≤ gb108));have n3_:=Aside0.mk ((by rw [hg];exact (below_size (by repeat (first|(with_reducible first|exact HB.out|apply below_alloc|apply pw_below_drewN|apply below_drew1)|exact HB.out))) : w.heap.size ≤ gb108));clear HB;have HB:=n0_;have BK108:=n1_;have GW108:=n2_;have GE108:=n3_;clear n0_ n1_ n2_ n3_;clear hb hbox hg;have hcz10_0 : w9.cell? ⟨gb108,0,none⟩ = some (.string a0_0):=(blk_cell BK108.out 0).trans rfl;have hcz10_1 : w9.cell? ⟨gb108,1,none⟩ = some (.string a0_1):=(blk_cell BK108.out 1).trans rfl;have hcz10_2 : w9.cell? ⟨gb108,2,none⟩ = some (.int .i64 a0_2):=(blk_cell BK108.out 2).trans rfl;have hfz10_0:=blk_frozen BK108.out 0;have hfz10_1:=blk_frozen BK108.out 1;have hfz10_2:=blk_frozen BK108.out 2)|((with_reducible refine gate_callee (f:=27) rfl ?_);refine goesL_ (some 5) rfl rfl Tryd.func27 (by kernel_rfl) rfl #[.string a0_0] rfl (by (try simp only [List.map_toArray,List.map_cons,List.map_nil]);first|done|rfl|(simp only [List.length_drop,List.length_take];rfl)) ?_;(with_reducible refine (origin_Default.calls a0_0 t109 _ A2.out).mono ?_);rintro e w' ⟨rfl,⟨nd,rfl⟩⟩;refine ⟨_,rfl,?_⟩)|(go_at_call 49;(with_reducible refine (origin_isHost.calls k a0_1 true _ A6.out).mono ?_);rintro e w11 ⟨rfl,hb⟩;have n0_:=Aside0.mk (blk_below (g:=gb108) (o:=.cells #[.string a0_0,.string a0_1,.int .i64 a0_2] 23 (0,0)) (by (with_reducible repeat (first|refine blk_drewN ?_ _|refine blk_drew ?_|refine blk_alloc ?_ _));exact BK108.out) hb);have n1_:=Aside0.mk (below_step (by repeat (first|(with_reducible first|exact HB.out|apply below_alloc|apply pw_below_drewN|apply below_drew1|refine below_set ?_ GE108.out)|exact HB.out)) hb);clear BK108;clear HB;have BK108:=n0_;have HB:=n1_;clear n0_ n1_;(try clear hb);(try clear hb2);(try clear hk);(try clear hi);have hcz12_0 : w11.cell? ⟨gb108,0,none⟩ = some (.string a0_0):=(blk_cell BK108.out 0).trans rfl;have hcz12_1 : w11.cell? ⟨gb108,1,none⟩ = some (.string a0_1):=(blk_cell BK108.out 1).trans rfl;have hcz12_2 : w11.cell? ⟨gb108,2,none⟩ = some (.int .i64 a0_2):=(blk_cell BK108.out 2).trans rfl;have hfz12_0:=blk_frozen BK108.out 0;have hfz12_1:=blk_frozen BK108.out 1;have hfz12_2:=blk_frozen BK108.out 2))
    go_ret
    exact ⟨by first|rfl|(simp [errW_none,errW_some] <;> rfl)|(simp [*,errW_none,errW_some] <;> rfl),by repeat (first|(with_reducible first|exact HB.out|apply below_alloc|apply pw_below_drewN|apply below_drew1|refine below_set ?_ GE108.out)|exact HB.out)⟩
   ·rw [if_neg c8] at H
    have c8b0 : decide (1 ≤ a0_2) = false:=decide_eq_false c8
    clear c8
    obtain rfl:=Option.some.inj H
    go_enter Tryd.func21,Tryd.ntmps21
    go_wp2_with (first|((with_reducible refine gate_dst (N:=1) rfl ?_);refine box_event ?hg (N:=1) ?hd (cs:=#[.string a0_0,.string a0_1,.int .i64 a0_2]) (t:=23) ?hr ?_;(case hd => rfl);(case hg => rfl);(case hr => first|(go_simp;done)|(go_simp;rfl));intro gb108 hg w13 hbox hb;have n0_:=Aside0.mk (below_step (by repeat (first|(with_reducible first|exact HB.out|apply below_alloc|apply pw_below_drewN|apply below_drew1)|exact HB.out)) hb);have n1_:=Aside0.mk (hbox);have n2_:=Aside0.mk ((by rw [hg];exact (below_size (by repeat (first|(with_reducible first|exact HB.out|apply below_alloc|apply pw_below_drewN|apply below_drew1)|exact HB.out))) : w.heap.size ≤ gb108));have n3_:=Aside0.mk ((by rw [hg];exact (below_size (by repeat (first|(with_reducible first|exact HB.out|apply below_alloc|apply pw_below_drewN|apply below_drew1)|exact HB.out))) : w.heap.size ≤ gb108));clear HB;have HB:=n0_;have BK108:=n1_;have GW108:=n2_;have GE108:=n3_;clear n0_ n1_ n2_ n3_;clear hb hbox hg;have hcz14_0 : w13.cell? ⟨gb108,0,none⟩ = some (.string a0_0):=(blk_cell BK108.out 0).trans rfl;have hcz14_1 : w13.cell? ⟨gb108,1,none⟩ = some (.string a0_1):=(blk_cell BK108.out 1).trans rfl;have hcz14_2 : w13.cell? ⟨gb108,2,none⟩ = some (.int .i64 a0_2):=(blk_cell BK108.out 2).trans rfl;have hfz14_0:=blk_frozen BK108.out 0;have hfz14_1:=blk_frozen BK108.out 1;have hfz14_2:=blk_frozen BK108.out 2)|((with_reducible refine gate_callee (f:=27) rfl ?_);refine goesL_ (some 5) rfl rfl Tryd.func27 (by kernel_rfl) rfl #[.string a0_0] rfl (by (try simp only [List.map_toArray,List.map_cons,List.map_nil]);first|done|rfl|(simp only [List.length_drop,List.length_take];rfl)) ?_;(with_reducible refine (origin_Default.calls a0_0 t109 _ A2.out).mono ?_);rintro e w' ⟨rfl,⟨nd,rfl⟩⟩;refine ⟨_,rfl,?_⟩)|(go_at_call 49;(with_reducible refine (origin_isHost.calls k a0_1 true _ A6.out).mono ?_);rintro e w15 ⟨rfl,hb⟩;have n0_:=Aside0.mk (blk_below (g:=gb108) (o:=.cells #[.string a0_0,.string a0_1,.int .i64 a0_2] 23 (0,0)) (by (with_reducible repeat (first|refine blk_drewN ?_ _|refine blk_drew ?_|refine blk_alloc ?_ _));exact BK108.out) hb);have n1_:=Aside0.mk (below_step (by repeat (first|(with_reducible first|exact HB.out|apply below_alloc|apply pw_below_drewN|apply below_drew1|refine below_set ?_ GE108.out)|exact HB.out)) hb);clear BK108;clear HB;have BK108:=n0_;have HB:=n1_;clear n0_ n1_;(try clear hb);(try clear hb2);(try clear hk);(try clear hi);have hcz16_0 : w15.cell? ⟨gb108,0,none⟩ = some (.string a0_0):=(blk_cell BK108.out 0).trans rfl;have hcz16_1 : w15.cell? ⟨gb108,1,none⟩ = some (.string a0_1):=(blk_cell BK108.out 1).trans rfl;have hcz16_2 : w15.cell? ⟨gb108,2,none⟩ = some (.int .i64 a0_2):=(blk_cell BK108.out 2).trans rfl;have hfz16_0:=blk_frozen BK108.out 0;have hfz16_1:=blk_frozen BK108.out 1;have hfz16_2:=blk_frozen BK108.out 2))
    go_ret
    exact ⟨by first|rfl|(simp [errW_none,errW_some] <;> rfl)|(simp [*,errW_none,errW_some] <;> rfl),by repeat (first|(with_reducible first|exact HB.out|apply below_alloc|apply pw_below_drewN|apply below_drew1|refine below_set ?_ GE108.out)|exact HB.out)⟩
  ·replace c7:=Bool.eq_false_iff.mpr c7
   subst c7
   have H1 : (some false) = some r:=by rw [if_neg (show ¬ (false = true) by decide)] at H;exact H
   clear H
   have H:=H1
   clear H1
   obtain rfl:=Option.some.inj H
   go_enter Tryd.func21,Tryd.ntmps21
   go_wp2_with (first|((with_reducible refine gate_dst (N:=1) rfl ?_);refine box_event ?hg (N:=1) ?hd (cs:=#[.string a0_0,.string a0_1,.int .i64 a0_2]) (t:=23) ?hr ?_;(case hd => rfl);(case hg => rfl);(case hr => first|(go_simp;done)|(go_simp;rfl));intro gb108 hg w17 hbox hb;have n0_:=Aside0.mk (below_step (by repeat (first|(with_reducible first|exact HB.out|apply below_alloc|apply pw_below_drewN|apply below_drew1)|exact HB.out)) hb);have n1_:=Aside0.mk (hbox);have n2_:=Aside0.mk ((by rw [hg];exact (below_size (by repeat (first|(with_reducible first|exact HB.out|apply below_alloc|apply pw_below_drewN|apply below_drew1)|exact HB.out))) : w.heap.size ≤ gb108));have n3_:=Aside0.mk ((by rw [hg];exact (below_size (by repeat (first|(with_reducible first|exact HB.out|apply below_alloc|apply pw_below_drewN|apply below_drew1)|exact HB.out))) : w.heap.size ≤ gb108));clear HB;have HB:=n0_;have BK108:=n1_;have GW108:=n2_;have GE108:=n3_;clear n0_ n1_ n2_ n3_;clear hb hbox hg;have hcz18_0 : w17.cell? ⟨gb108,0,none⟩ = some (.string a0_0):=(blk_cell BK108.out 0).trans rfl;have hcz18_1 : w17.cell? ⟨gb108,1,none⟩ = some (.string a0_1):=(blk_cell BK108.out 1).trans rfl;have hcz18_2 : w17.cell? ⟨gb108,2,none⟩ = some (.int .i64 a0_2):=(blk_cell BK108.out 2).trans rfl;have hfz18_0:=blk_frozen BK108.out 0;have hfz18_1:=blk_frozen BK108.out 1;have hfz18_2:=blk_frozen BK108.out 2)|((with_reducible refine gate_callee (f:=27) rfl ?_);refine goesL_ (some 5) rfl rfl Tryd.func27 (by kernel_rfl) rfl #[.string a0_0] rfl (by (try simp only [List.map_toArray,List.map_cons,List.map_nil]);first|done|rfl|(simp only [List.length_drop,List.length_take];rfl)) ?_;(with_reducible refine (origin_Default.calls a0_0 t109 _ A2.out).mono ?_);rintro e w' ⟨rfl,⟨nd,rfl⟩⟩;refine ⟨_,rfl,?_⟩)|(go_at_call 49;(with_reducible refine (origin_isHost.calls k a0_1 false _ A6.out).mono ?_);rintro e w19 ⟨rfl,hb⟩;have n0_:=Aside0.mk (blk_below (g:=gb108) (o:=.cells #[.string a0_0,.string a0_1,.int .i64 a0_2] 23 (0,0)) (by (with_reducible repeat (first|refine blk_drewN ?_ _|refine blk_drew ?_|refine blk_alloc ?_ _));exact BK108.out) hb);have n1_:=Aside0.mk (below_step (by repeat (first|(with_reducible first|exact HB.out|apply below_alloc|apply pw_below_drewN|apply below_drew1|refine below_set ?_ GE108.out)|exact HB.out)) hb);clear BK108;clear HB;have BK108:=n0_;have HB:=n1_;clear n0_ n1_;(try clear hb);(try clear hb2);(try clear hk);(try clear hi)))
   go_ret
   exact ⟨by first|rfl|(simp [errW_none,errW_some] <;> rfl)|(simp [*,errW_none,errW_some] <;> rfl),by repeat (first|(with_reducible first|exact HB.out|apply below_alloc|apply pw_below_drewN|apply below_drew1|refine below_set ?_ GE108.out)|exact HB.out)⟩

/-! ### octet_digit: function 83 -/
def octet_digit.f (a0 : Int) : Option (Bool):=if a0 ≥ 48 then (some (decide (a0 ≤ 57))) else (some false)
set_option maxHeartbeats 8000000 in
set_option maxRecDepth 100000 in
theorem octet_digit.calls (a0 : Int) (r : Bool) (w : World) (h : octet_digit.f a0 = some r) :
  Calls Tryd.prog 83 #[.int .u8 a0] w fun e w' => e = .returned (.bool r) ∧ Drawn0 w w':=by
 have H : (if a0 ≥ 48 then (some (decide (a0 ≤ 57))) else (some false)) = some r:=h
 clear h
 by_cases c2 : a0 ≥ 48
 ·rw [if_pos c2] at H
  have c2b0 : decide (48 ≤ a0) = true:=decide_eq_true c2
  clear c2
  obtain rfl:=Option.some.inj H
  go_enter Tryd.func83,Tryd.ntmps83
  go_wp2
  go_ret
  exact ⟨by first|rfl|(simp;done)|(simp [*];done)|(simp [*];generalize ByteArray.toList _ = l_;cases l_ <;> rfl),by repeat (first|exact Drawn0.refl _|apply Drawn0.step)⟩
 ·rw [if_neg c2] at H
  have c2b0 : decide (48 ≤ a0) = false:=decide_eq_false c2
  clear c2
  obtain rfl:=Option.some.inj H
  go_enter Tryd.func83,Tryd.ntmps83
  go_wp2
  go_ret
  exact ⟨by first|rfl|(simp;done)|(simp [*];done)|(simp [*];generalize ByteArray.toList _ = l_;cases l_ <;> rfl),by repeat (first|exact Drawn0.refl _|apply Drawn0.step)⟩

/-! ### octet_Digits: function 66 -/
def octet_Digits.l0 : Nat → ByteArray → Int → Int → Int → Option (Int × Bool)
 | 0,_,_,_,_ => none
 | k + 1,x0,x4,x8,x9 => if x9 < x8 then (if 0 ≤ x9 then (if x9 < (x0.size : Int) then ((octet_digit.f (bt x0 x9)).bind fun t111 => (if t111 = true then (if x4 > ((18446744073709551615 - (((bt x0 x9) - 48) % 256)) / 10) then (octet_Digits.l0 k x0 18446744073709551615 x8 (wrap64 (x9 + 1))) else (octet_Digits.l0 k x0 (IntKind.u64.wrap ((IntKind.u64.wrap (x4 * 10)) + (((bt x0 x9) - 48) % 256))) x8 (wrap64 (x9 + 1)))) else (some (0,false)))) else (none)) else (none)) else (some (x4,(x0.toList != ([] : List UInt8))))
def octet_Digits.f (k : Nat) (a0 : ByteArray) : Option (Int × Bool):=octet_Digits.l0 k a0 0 (a0.size : Int) 0
theorem octet_Digits.mono_l : ∀ k,(∀ y0 y1 y2 y3,LeO (octet_Digits.l0 k y0 y1 y2 y3) (octet_Digits.l0 (k + 1) y0 y1 y2 y3))
 | 0 => fun _ _ _ _ r h => by simp [octet_Digits.l0] at h
 | k + 1 => by
  have ih0:=octet_Digits.mono_l k
  ·intro y0 y1 y2 y3
   unfold octet_Digits.l0
   repeat' first
   | (with_reducible exact ih0 _ _ _ _)
   | (with_reducible exact LeO.refl _)
   | (with_reducible exact LeO.none _)
   | (with_reducible refine LeO.ite ?_ ?_)
   | (with_reducible refine LeO.bind ?_ (fun _ => ?_))
   | exact ih0 _ _ _ _
   | exact LeO.none _
   | refine LeO.ite ?_ ?_
   | refine LeO.bind ?_ (fun _ => ?_)
theorem octet_Digits.mono : ∀ a0 k,LeO (octet_Digits.f k a0) (octet_Digits.f (k + 1) a0):=by
 intro a0 k
 have ih0:=octet_Digits.mono_l k
 unfold octet_Digits.f
 repeat' first
   | (with_reducible exact ih0 _ _ _ _)
   | (with_reducible exact LeO.refl _)
   | (with_reducible exact LeO.none _)
   | (with_reducible refine LeO.ite ?_ ?_)
   | (with_reducible refine LeO.bind ?_ (fun _ => ?_))
   | exact ih0 _ _ _ _
   | exact LeO.none _
   | refine LeO.ite ?_ ?_
   | refine LeO.bind ?_ (fun _ => ?_)
set_option maxHeartbeats 8000000 in
set_option maxRecDepth 100000 in
theorem octet_Digits.calls (k : Nat) (a0 : ByteArray) (r1 : Int) (r2 : Bool) (w : World) (h : octet_Digits.f k a0 = some (r1,r2)) :
  Calls Tryd.prog 66 #[.string a0] w fun e w' => e = .returned (.tuple #[.int .u64 r1,.bool r2]) ∧ Drawn0 w w':=by
 have H : (octet_Digits.l0 k a0 0 (a0.size : Int) 0) = some (r1,r2):=h
 clear h
 have H':=Aside0.mk H
 clear H
 go_enter Tryd.func66,Tryd.ntmps66
 go_wp2
 go_loopg [4,9] k (fun kq v4 v9 w' => ∃ (x4_1 : Int) (x9_1 : Int),v4 = .int .u64 x4_1 ∧ v9 = .int .i64 x9_1 ∧ Aside0 (octet_Digits.l0 kq a0 x4_1 (a0.size : Int) x9_1 = some (r1,r2)) ∧ Aside0 (kq ≤ k) ∧ Drawn0 w w')
 case atStart => exact ⟨(0),(0),(by first|rfl|(simp;done)|(simp [*];done)),(by first|rfl|(simp;done)|(simp [*];done)),H',⟨Nat.le_refl _⟩,by repeat (first|exact Drawn0.refl _|apply Drawn0.step)⟩
 case round =>
  clear H'
  obtain ⟨x4_1,x9_1,rfl,rfl,HA,HK1,⟨m1,rfl⟩⟩:=hrel
  cases gk with
  | zero => exact absurd HA.out (by simp [octet_Digits.l0])
  | succ k1 =>
   have H:=HA.out
   clear HA
   simp only [octet_Digits.l0] at H
   by_cases c2 : x9_1 < (a0.size : Int)
   ·rw [if_pos c2] at H
    have c2b0 : decide (x9_1 < (a0.size : Int)) = true:=decide_eq_true c2
    clear c2
    by_cases c3 : 0 ≤ x9_1
    ·rw [if_pos c3] at H
     have c3b0 : decide (0 ≤ x9_1) = true:=decide_eq_true c3
     clear c3
     by_cases c4 : x9_1 < (a0.size : Int)
     ·rw [if_pos c4] at H
      have c4b0 : decide (x9_1 < (a0.size : Int)) = true:=decide_eq_true c4
      clear c4
      replace H:=Option.bind_eq_some_iff.mp H
      obtain ⟨t111,A60,H⟩:=H
      replace H : (if t111 = true then (if x4_1 > ((18446744073709551615 - (((bt a0 x9_1) - 48) % 256)) / 10) then (octet_Digits.l0 k1 a0 18446744073709551615 (a0.size : Int) (wrap64 (x9_1 + 1))) else (octet_Digits.l0 k1 a0 (IntKind.u64.wrap ((IntKind.u64.wrap (x4_1 * 10)) + (((bt a0 x9_1) - 48) % 256))) (a0.size : Int) (wrap64 (x9_1 + 1)))) else (some (0,false))) = some (r1,r2):=H
      have A6:=Aside0.mk A60
      clear A60
      by_cases c7 : t111 = true
      ·subst c7
       have H1 : (if x4_1 > ((18446744073709551615 - (((bt a0 x9_1) - 48) % 256)) / 10) then (octet_Digits.l0 k1 a0 18446744073709551615 (a0.size : Int) (wrap64 (x9_1 + 1))) else (octet_Digits.l0 k1 a0 (IntKind.u64.wrap ((IntKind.u64.wrap (x4_1 * 10)) + (((bt a0 x9_1) - 48) % 256))) (a0.size : Int) (wrap64 (x9_1 + 1)))) = some (r1,r2):=by rw [if_pos rfl] at H;exact H
       clear H
       have H:=H1
       clear H1
       by_cases c9 : x4_1 > ((18446744073709551615 - (((bt a0 x9_1) - 48) % 256)) / 10)
       ·rw [if_pos c9] at H
        have c9b0 : decide (((18446744073709551615 - (((bt a0 x9_1) - 48) % 256)) / 10) < x4_1) = true:=decide_eq_true c9
        clear c9
        have H':=Aside0.mk H
        clear H
        have p5 : 0 ≤ (x9_1 : Int):=of_decide_eq_true (by first|(with_reducible assumption)|assumption)
        have q5 : x9_1 < (a0.size : Int):=of_decide_eq_true (by first|(with_reducible assumption)|assumption)
        have hx5:=bt_at a0 x9_1
        replace p5:=eq_true p5
        replace q5:=eq_true q5
        go_wp2_with (first|((with_reducible refine gate_callee (f:=83) rfl ?_);refine goesL_ (some 15) rfl rfl Tryd.func83 (by kernel_rfl) rfl #[.int .u8 (bt a0 x9_1)] rfl (by (try simp only [List.map_toArray,List.map_cons,List.map_nil]);first|done|rfl|(simp only [List.length_drop,List.length_take];rfl)) ?_;(with_reducible refine (octet_digit.calls (bt a0 x9_1) true _ A6.out).mono ?_);rintro e w' ⟨rfl,⟨nd,rfl⟩⟩;refine ⟨_,rfl,?_⟩;have p8 : 0 ≤ (x9_1 : Int):=of_decide_eq_true (by first|(with_reducible assumption)|assumption);have q8 : x9_1 < (a0.size : Int):=of_decide_eq_true (by first|(with_reducible assumption)|assumption);have hx8:=bt_at a0 x9_1;replace p8:=eq_true p8;replace q8:=eq_true q8))
        go_roundg k1
        case measure => have:=HK1.out;omega
        case rel => exact ⟨(18446744073709551615),(wrap64 (x9_1 + 1)),(by first|rfl|(simp;done)|(simp [*];done)),(by first|rfl|(simp;done)|(simp [*];done)),H',⟨by have:=HK1.out;omega⟩,by repeat (first|exact Drawn0.refl _|apply Drawn0.step)⟩
       ·rw [if_neg c9] at H
        have c9b0 : decide (((18446744073709551615 - (((bt a0 x9_1) - 48) % 256)) / 10) < x4_1) = false:=decide_eq_false c9
        clear c9
        have H':=Aside0.mk H
        clear H
        have p5 : 0 ≤ (x9_1 : Int):=of_decide_eq_true (by first|(with_reducible assumption)|assumption)
        have q5 : x9_1 < (a0.size : Int):=of_decide_eq_true (by first|(with_reducible assumption)|assumption)
        have hx5:=bt_at a0 x9_1
        replace p5:=eq_true p5
        replace q5:=eq_true q5
        go_wp2_with (first|((with_reducible refine gate_callee (f:=83) rfl ?_);refine goesL_ (some 15) rfl rfl Tryd.func83 (by kernel_rfl) rfl #[.int .u8 (bt a0 x9_1)] rfl (by (try simp only [List.map_toArray,List.map_cons,List.map_nil]);first|done|rfl|(simp only [List.length_drop,List.length_take];rfl)) ?_;(with_reducible refine (octet_digit.calls (bt a0 x9_1) true _ A6.out).mono ?_);rintro e w' ⟨rfl,⟨nd,rfl⟩⟩;refine ⟨_,rfl,?_⟩;have p8 : 0 ≤ (x9_1 : Int):=of_decide_eq_true (by first|(with_reducible assumption)|assumption);have q8 : x9_1 < (a0.size : Int):=of_decide_eq_true (by first|(with_reducible assumption)|assumption);have hx8:=bt_at a0 x9_1;replace p8:=eq_true p8;replace q8:=eq_true q8))
        go_roundg k1
        case measure => have:=HK1.out;omega
        case rel => exact ⟨(IntKind.u64.wrap ((IntKind.u64.wrap (x4_1 * 10)) + (((bt a0 x9_1) - 48) % 256))),(wrap64 (x9_1 + 1)),(by first|rfl|(simp;done)|(simp [*];done)),(by first|rfl|(simp;done)|(simp [*];done)),H',⟨by have:=HK1.out;omega⟩,by repeat (first|exact Drawn0.refl _|apply Drawn0.step)⟩
      ·replace c7:=Bool.eq_false_iff.mpr c7
       subst c7
       have H1 : (some (0,false)) = some (r1,r2):=by rw [if_neg (show ¬ (false = true) by decide)] at H;exact H
       clear H
       have H:=H1
       clear H1
       simp only [Option.some.injEq,Prod.mk.injEq] at H
       obtain ⟨rfl,rfl⟩:=H
       have p5 : 0 ≤ (x9_1 : Int):=of_decide_eq_true (by first|(with_reducible assumption)|assumption)
       have q5 : x9_1 < (a0.size : Int):=of_decide_eq_true (by first|(with_reducible assumption)|assumption)
       have hx5:=bt_at a0 x9_1
       replace p5:=eq_true p5
       replace q5:=eq_true q5
       go_wp2_with (first|((with_reducible refine gate_callee (f:=83) rfl ?_);refine goesL_ (some 15) rfl rfl Tryd.func83 (by kernel_rfl) rfl #[.int .u8 (bt a0 x9_1)] rfl (by (try simp only [List.map_toArray,List.map_cons,List.map_nil]);first|done|rfl|(simp only [List.length_drop,List.length_take];rfl)) ?_;(with_reducible refine (octet_digit.calls (bt a0 x9_1) false _ A6.out).mono ?_);rintro e w' ⟨rfl,⟨nd,rfl⟩⟩;refine ⟨_,rfl,?_⟩))
       go_ret2
       exact ⟨by first|rfl|(simp;done)|(simp [*];done)|(simp [*];generalize ByteArray.toList _ = l_;cases l_ <;> rfl),by repeat (first|exact Drawn0.refl _|apply Drawn0.step)⟩
     ·rw [if_neg c4] at H
      exact absurd H (by simp)
    ·rw [if_neg c3] at H
     exact absurd H (by simp)
   ·rw [if_neg c2] at H
    have c2b0 : decide (x9_1 < (a0.size : Int)) = false:=decide_eq_false c2
    clear c2
    simp only [Option.some.injEq,Prod.mk.injEq] at H
    obtain ⟨rfl,rfl⟩:=H
    go_wp2
    go_ret2
    exact ⟨by first|rfl|(simp;done)|(simp [*];done)|(simp [*];generalize ByteArray.toList _ = l_;cases l_ <;> rfl),by repeat (first|exact Drawn0.refl _|apply Drawn0.step)⟩

/-! ### origin_port: function 46 -/
def origin_port.f (k : Nat) (a0 : ByteArray) : Option (Int):=(octet_Digits.f k a0).bind fun bt112 => (if bt112.2 = true then (if (a0.size : Int) > 5 then (some 0) else (if 0 < (a0.size : Int) then (if (bt a0 0) = 48 then (some 0) else (if bt112.1 > 65535 then (some 0) else (some (wrap64 (bt112.1))))) else (none))) else (some 0))
theorem origin_port.mono : ∀ a0 k,LeO (origin_port.f k a0) (origin_port.f (k + 1) a0):=by
 intro a0 k
 unfold origin_port.f
 repeat' first
   | (with_reducible exact octet_Digits.mono _ _)
   | (with_reducible exact LeO.refl _)
   | (with_reducible exact LeO.none _)
   | (with_reducible refine LeO.ite ?_ ?_)
   | (with_reducible refine LeO.bind ?_ (fun _ => ?_))
   | exact octet_Digits.mono _ _
   | exact LeO.none _
   | refine LeO.ite ?_ ?_
   | refine LeO.bind ?_ (fun _ => ?_)
set_option maxHeartbeats 8000000 in
set_option maxRecDepth 100000 in
theorem origin_port.calls (k : Nat) (a0 : ByteArray) (r : Int) (w : World) (h : origin_port.f k a0 = some r) :
  Calls Tryd.prog 46 #[.string a0] w fun e w' => e = .returned (.int .i64 r) ∧ Below w.heap.size w w':=by
 have HB:=Aside0.mk (Below.refl w.heap.size w)
 have H : ((octet_Digits.f k a0).bind fun bt112 => (if bt112.2 = true then (if (a0.size : Int) > 5 then (some 0) else (if 0 < (a0.size : Int) then (if (bt a0 0) = 48 then (some 0) else (if bt112.1 > 65535 then (some 0) else (some (wrap64 (bt112.1))))) else (none))) else (some 0))) = some r:=h
 clear h
 replace H:=Option.bind_eq_some_iff.mp H
 obtain ⟨⟨t112,t113⟩,A20,H⟩:=H
 replace H : (if t113 = true then (if (a0.size : Int) > 5 then (some 0) else (if 0 < (a0.size : Int) then (if (bt a0 0) = 48 then (some 0) else (if t112 > 65535 then (some 0) else (some (wrap64 (t112))))) else (none))) else (some 0)) = some r:=H
 have A2:=Aside0.mk A20
 clear A20
 by_cases c3 : t113 = true
 ·subst c3
  have H1 : (if (a0.size : Int) > 5 then (some 0) else (if 0 < (a0.size : Int) then (if (bt a0 0) = 48 then (some 0) else (if t112 > 65535 then (some 0) else (some (wrap64 (t112))))) else (none))) = some r:=by rw [if_pos rfl] at H;exact H
  clear H
  have H:=H1
  clear H1
  by_cases c4 : (a0.size : Int) > 5
  ·rw [if_pos c4] at H
   have c4b0 : decide (5 < (a0.size : Int)) = true:=decide_eq_true c4
   have c4b1 : decide (5 < a0.size) = true:=decide_eq_true (by omega)
   clear c4
   obtain rfl:=Option.some.inj H
   go_enter Tryd.func46,Tryd.ntmps46
   go_wp2_with (first|((with_reducible refine gate_callee (f:=66) rfl ?_);refine goesL_ (some 7) rfl rfl Tryd.func66 (by kernel_rfl) rfl #[.string a0] rfl (by (try simp only [List.map_toArray,List.map_cons,List.map_nil]);first|done|rfl|(simp only [List.length_drop,List.length_take];rfl)) ?_;(with_reducible refine (octet_Digits.calls k a0 t112 true _ A2.out).mono ?_);rintro e w' ⟨rfl,⟨nd,rfl⟩⟩;refine ⟨_,rfl,?_⟩))
   go_ret
   exact ⟨by first|rfl|(simp [errW_none,errW_some] <;> rfl)|(simp [*,errW_none,errW_some] <;> rfl),by repeat (first|(with_reducible first|exact HB.out|apply below_alloc|apply pw_below_drewN|apply below_drew1)|exact HB.out)⟩
  ·rw [if_neg c4] at H
   have c4b0 : decide (5 < (a0.size : Int)) = false:=decide_eq_false c4
   have c4b1 : decide (5 < a0.size) = false:=decide_eq_false (by omega)
   clear c4
   by_cases c5 : 0 < (a0.size : Int)
   ·rw [if_pos c5] at H
    have c5b0 : decide (0 < (a0.size : Int)) = true:=decide_eq_true c5
    have c5b1 : decide (0 < a0.size) = true:=decide_eq_true (by omega)
    clear c5
    by_cases c7 : (bt a0 0) = 48
    ·rw [if_pos c7] at H
     have c7b0 : ((bt a0 0) == 48) = true:=beq_iff_eq.mpr c7
     have c7b1 : ((bt a0 0) != 48) = false:=bne_eq_false_iff_eq.mpr c7
     clear c7
     obtain rfl:=Option.some.inj H
     go_enter Tryd.func46,Tryd.ntmps46
     go_wp2_with (first|((with_reducible refine gate_callee (f:=66) rfl ?_);refine goesL_ (some 7) rfl rfl Tryd.func66 (by kernel_rfl) rfl #[.string a0] rfl (by (try simp only [List.map_toArray,List.map_cons,List.map_nil]);first|done|rfl|(simp only [List.length_drop,List.length_take];rfl)) ?_;(with_reducible refine (octet_Digits.calls k a0 t112 true _ A2.out).mono ?_);rintro e w' ⟨rfl,⟨nd,rfl⟩⟩;refine ⟨_,rfl,?_⟩;have p6 : 0 ≤ (0 : Int):=(by omega);have q6 : 0 < a0.size:=(by have : (0 : Int) < (a0.size : Int):=of_decide_eq_true (by first|(with_reducible assumption)|assumption);omega);have hx6 : ∀ h : 0 < a0.size,((a0[0]'h).toNat : Int) = bt a0 0:=bt_at a0 0;clear p6;have qi6 : (0 < (a0.size : Int)) = True:=eq_true (of_decide_eq_true (by first|(with_reducible assumption)|assumption));replace q6:=eq_true q6))
     go_ret
     exact ⟨by first|rfl|(simp [errW_none,errW_some] <;> rfl)|(simp [*,errW_none,errW_some] <;> rfl),by repeat (first|(with_reducible first|exact HB.out|apply below_alloc|apply pw_below_drewN|apply below_drew1)|exact HB.out)⟩
    ·rw [if_neg c7] at H
     have c7b0 : ((bt a0 0) == 48) = false:=beq_eq_false_iff_ne.mpr c7
     have c7b1 : ((bt a0 0) != 48) = true:=bne_iff_ne.mpr c7
     by_cases c8 : t112 > 65535
     ·rw [if_pos c8] at H
      have c8b0 : decide (65535 < t112) = true:=decide_eq_true c8
      clear c8
      obtain rfl:=Option.some.inj H
      go_enter Tryd.func46,Tryd.ntmps46
      go_wp2_with (first|((with_reducible refine gate_callee (f:=66) rfl ?_);refine goesL_ (some 7) rfl rfl Tryd.func66 (by kernel_rfl) rfl #[.string a0] rfl (by (try simp only [List.map_toArray,List.map_cons,List.map_nil]);first|done|rfl|(simp only [List.length_drop,List.length_take];rfl)) ?_;(with_reducible refine (octet_Digits.calls k a0 t112 true _ A2.out).mono ?_);rintro e w' ⟨rfl,⟨nd,rfl⟩⟩;refine ⟨_,rfl,?_⟩;have p6 : 0 ≤ (0 : Int):=(by omega);have q6 : 0 < a0.size:=(by have : (0 : Int) < (a0.size : Int):=of_decide_eq_true (by first|(with_reducible assumption)|assumption);omega);have hx6 : ∀ h : 0 < a0.size,((a0[0]'h).toNat : Int) = bt a0 0:=bt_at a0 0;clear p6;have qi6 : (0 < (a0.size : Int)) = True:=eq_true (of_decide_eq_true (by first|(with_reducible assumption)|assumption));replace q6:=eq_true q6))
      go_ret
      exact ⟨by first|rfl|(simp [errW_none,errW_some] <;> rfl)|(simp [*,errW_none,errW_some] <;> rfl),by repeat (first|(with_reducible first|exact HB.out|apply below_alloc|apply pw_below_drewN|apply below_drew1)|exact HB.out)⟩
     ·rw [if_neg c8] at H
      have c8b0 : decide (65535 < t112) = false:=decide_eq_false c8
      clear c8
      obtain rfl:=Option.some.inj H
      go_enter Tryd.func46,Tryd.ntmps46
      go_wp2_with (first|((with_reducible refine gate_callee (f:=66) rfl ?_);refine goesL_ (some 7) rfl rfl Tryd.func66 (by kernel_rfl) rfl #[.string a0] rfl (by (try simp only [List.map_toArray,List.map_cons,List.map_nil]);first|done|rfl|(simp only [List.length_drop,List.length_take];rfl)) ?_;(with_reducible refine (octet_Digits.calls k a0 t112 true _ A2.out).mono ?_);rintro e w' ⟨rfl,⟨nd,rfl⟩⟩;refine ⟨_,rfl,?_⟩;have p6 : 0 ≤ (0 : Int):=(by omega);have q6 : 0 < a0.size:=(by have : (0 : Int) < (a0.size : Int):=of_decide_eq_true (by first|(with_reducible assumption)|assumption);omega);have hx6 : ∀ h : 0 < a0.size,((a0[0]'h).toNat : Int) = bt a0 0:=bt_at a0 0;clear p6;have qi6 : (0 < (a0.size : Int)) = True:=eq_true (of_decide_eq_true (by first|(with_reducible assumption)|assumption));replace q6:=eq_true q6))
      go_ret
      exact ⟨by first|rfl|(simp [errW_none,errW_some] <;> rfl)|(simp [*,errW_none,errW_some] <;> rfl),by repeat (first|(with_reducible first|exact HB.out|apply below_alloc|apply pw_below_drewN|apply below_drew1)|exact HB.out)⟩
   ·rw [if_neg c5] at H
    exact absurd H (by simp)
 ·replace c3:=Bool.eq_false_iff.mpr c3
  subst c3
  have H1 : (some 0) = some r:=by rw [if_neg (show ¬ (false = true) by decide)] at H;exact H
  clear H
  have H:=H1
  clear H1
  obtain rfl:=Option.some.inj H
  go_enter Tryd.func46,Tryd.ntmps46
  go_wp2_with (first|((with_reducible refine gate_callee (f:=66) rfl ?_);refine goesL_ (some 7) rfl rfl Tryd.func66 (by kernel_rfl) rfl #[.string a0] rfl (by (try simp only [List.map_toArray,List.map_cons,List.map_nil]);first|done|rfl|(simp only [List.length_drop,List.length_take];rfl)) ?_;(with_reducible refine (octet_Digits.calls k a0 t112 false _ A2.out).mono ?_);rintro e w' ⟨rfl,⟨nd,rfl⟩⟩;refine ⟨_,rfl,?_⟩))
  go_ret
  exact ⟨by first|rfl|(simp [errW_none,errW_some] <;> rfl)|(simp [*,errW_none,errW_some] <;> rfl),by repeat (first|(with_reducible first|exact HB.out|apply below_alloc|apply pw_below_drewN|apply below_drew1)|exact HB.out)⟩

/-! ### origin_Parse: function 19 -/
def origin_Parse.f (k : Nat) (a0 : ByteArray) : Option (ByteArray × ByteArray × Int × Int):=if (a0.size : Int) > 512 then (some ((⟨#[]⟩ : ByteArray),(⟨#[]⟩ : ByteArray),0,4)) else ((octet_Lower.f a0).bind fun t115 => ((strings_Cut.f t115 (⟨#[58,47,47]⟩ : ByteArray)).bind fun bt116 => (if bt116.2.2 = true then ((strings_Cut.f bt116.2.1 (⟨#[58]⟩ : ByteArray)).bind fun bt119 => ((origin_Default.f bt116.1).bind fun t122 => (if bt119.2.2 = true then ((origin_port.f k bt119.2.1).bind fun t124 => ((origin_Check.f k bt116.1 bt119.1 t124).bind fun t125 => (if t125 = true then (some (bt116.1,bt119.1,t124,0)) else (some ((⟨#[]⟩ : ByteArray),(⟨#[]⟩ : ByteArray),0,3))))) else ((origin_Check.f k bt116.1 bt119.1 t122).bind fun t126 => (if t126 = true then (some (bt116.1,bt119.1,t122,0)) else (some ((⟨#[]⟩ : ByteArray),(⟨#[]⟩ : ByteArray),0,3))))))) else (some ((⟨#[]⟩ : ByteArray),(⟨#[]⟩ : ByteArray),0,3)))))
theorem origin_Parse.mono : ∀ a0 k,LeO (origin_Parse.f k a0) (origin_Parse.f (k + 1) a0):=by
 intro a0 k
 unfold origin_Parse.f
 repeat' first
   | (with_reducible exact origin_Check.mono _ _ _ _)
   | (with_reducible exact origin_port.mono _ _)
   | (with_reducible exact LeO.refl _)
   | (with_reducible exact LeO.none _)
   | (with_reducible refine LeO.ite ?_ ?_)
   | (with_reducible refine LeO.bind ?_ (fun _ => ?_))
   | exact origin_Check.mono _ _ _ _
   | exact origin_port.mono _ _
   | exact LeO.none _
   | refine LeO.ite ?_ ?_
   | refine LeO.bind ?_ (fun _ => ?_)
set_option maxHeartbeats 8000000 in
set_option maxRecDepth 100000 in
theorem origin_Parse.calls (k : Nat) (a0 : ByteArray) (r1 : ByteArray) (r2 : ByteArray) (r3 : Int) (r4 : Int) (w : World) (hM_ : Aside0 (LaidW w)) (h : origin_Parse.f k a0 = some (r1,r2,r3,r4)) :
  Calls Tryd.prog 19 #[.string a0] w fun e w' => e = .returned (.tuple #[.agg #[.string r1,.string r2,.int .i64 r3],.int .i64 r4]) ∧ Below w.heap.size w w':=by
 have hu23:=Tryd.underlying23
 have HB:=Aside0.mk (Below.refl w.heap.size w)
 have H : (if (a0.size : Int) > 512 then (some ((⟨#[]⟩ : ByteArray),(⟨#[]⟩ : ByteArray),0,4)) else ((octet_Lower.f a0).bind fun t115 => ((strings_Cut.f t115 (⟨#[58,47,47]⟩ : ByteArray)).bind fun bt116 => (if bt116.2.2 = true then ((strings_Cut.f bt116.2.1 (⟨#[58]⟩ : ByteArray)).bind fun bt119 => ((origin_Default.f bt116.1).bind fun t122 => (if bt119.2.2 = true then ((origin_port.f k bt119.2.1).bind fun t124 => ((origin_Check.f k bt116.1 bt119.1 t124).bind fun t125 => (if t125 = true then (some (bt116.1,bt119.1,t124,0)) else (some ((⟨#[]⟩ : ByteArray),(⟨#[]⟩ : ByteArray),0,3))))) else ((origin_Check.f k bt116.1 bt119.1 t122).bind fun t126 => (if t126 = true then (some (bt116.1,bt119.1,t122,0)) else (some ((⟨#[]⟩ : ByteArray),(⟨#[]⟩ : ByteArray),0,3))))))) else (some ((⟨#[]⟩ : ByteArray),(⟨#[]⟩ : ByteArray),0,3)))))) = some (r1,r2,r3,r4):=h
 clear h
 by_cases c2 : (a0.size : Int) > 512
 ·rw [if_pos c2] at H
  have c2b0 : decide (512 < (a0.size : Int)) = true:=decide_eq_true c2
  have c2b1 : decide (512 < a0.size) = true:=decide_eq_true (by omega)
  clear c2
  simp only [Option.some.injEq,Prod.mk.injEq] at H
  obtain ⟨rfl,rfl,rfl,rfl⟩:=H
  go_enter Tryd.func19,Tryd.ntmps19
  go_wp2_with (first|((with_reducible refine gate_dst (N:=2) rfl ?_);refine box_event ?hg (N:=2) ?hd (cs:=#[.string (⟨#[]⟩ : ByteArray),.string (⟨#[]⟩ : ByteArray),.int .i64 0]) (t:=23) ?hr ?_;(case hd => rfl);(case hg => rfl);(case hr => first|(go_simp;done)|(go_simp;rfl));intro gb114 hg w3 hbox hb;have n0_:=Aside0.mk (below_step (by repeat (first|(with_reducible first|exact HB.out|apply below_alloc|apply pw_below_drewN|apply below_drew1)|exact HB.out)) hb);have n1_:=Aside0.mk (hbox);have n2_:=Aside0.mk ((by rw [hg];exact (below_size (by repeat (first|(with_reducible first|exact HB.out|apply below_alloc|apply pw_below_drewN|apply below_drew1)|exact HB.out))) : w.heap.size ≤ gb114));have n3_:=Aside0.mk ((by rw [hg];exact (below_size (by repeat (first|(with_reducible first|exact HB.out|apply below_alloc|apply pw_below_drewN|apply below_drew1)|exact HB.out))) : w.heap.size ≤ gb114));clear HB;have HB:=n0_;have BK114:=n1_;have GW114:=n2_;have GE114:=n3_;clear n0_ n1_ n2_ n3_;clear hb hbox hg;have hcz4_0 : w3.cell? ⟨gb114,0,none⟩ = some (.string (⟨#[]⟩ : ByteArray)):=(blk_cell BK114.out 0).trans rfl;have hcz4_1 : w3.cell? ⟨gb114,1,none⟩ = some (.string (⟨#[]⟩ : ByteArray)):=(blk_cell BK114.out 1).trans rfl;have hcz4_2 : w3.cell? ⟨gb114,2,none⟩ = some (.int .i64 0):=(blk_cell BK114.out 2).trans rfl;have hfz4_0:=blk_frozen BK114.out 0;have hfz4_1:=blk_frozen BK114.out 1;have hfz4_2:=blk_frozen BK114.out 2))
  refine bodyPost_ret (results_ct rfl _ _ gb114 23 #[.string (⟨#[]⟩ : ByteArray),.string (⟨#[]⟩ : ByteArray),.int .i64 0] (0,0) _ rfl (by (with_reducible repeat (first|refine blk_drewN ?_ _|refine blk_drew ?_|refine blk_alloc ?_ _));refine blk_put (cs:=#[.string (⟨#[]⟩ : ByteArray),.string (⟨#[]⟩ : ByteArray),.int .i64 0]) ?_ 2 _ rfl;(with_reducible repeat (first|refine blk_drewN ?_ _|refine blk_drew ?_|refine blk_alloc ?_ _));refine blk_put (cs:=#[.string (⟨#[]⟩ : ByteArray),.string (⟨#[]⟩ : ByteArray),.int .i64 0]) ?_ 1 _ rfl;(with_reducible repeat (first|refine blk_drewN ?_ _|refine blk_drew ?_|refine blk_alloc ?_ _));refine blk_put (cs:=#[.string (⟨#[]⟩ : ByteArray),.string (⟨#[]⟩ : ByteArray),.int .i64 0]) ?_ 0 _ rfl;(with_reducible repeat (first|refine blk_drewN ?_ _|refine blk_drew ?_|refine blk_alloc ?_ _));exact BK114.out) Tryd.underlying23 rfl (by kernel_rfl)) rfl ?_
  exact ⟨by first|rfl|(simp [errW_none,errW_some] <;> rfl)|(simp [*,errW_none,errW_some] <;> rfl),by repeat (first|(with_reducible first|exact HB.out|apply below_alloc|apply pw_below_drewN|apply below_drew1|refine below_set ?_ GE114.out)|exact HB.out)⟩
 ·rw [if_neg c2] at H
  have c2b0 : decide (512 < (a0.size : Int)) = false:=decide_eq_false c2
  have c2b1 : decide (512 < a0.size) = false:=decide_eq_false (by omega)
  clear c2
  replace H:=Option.bind_eq_some_iff.mp H
  obtain ⟨t115,A50,H⟩:=H
  replace H : ((strings_Cut.f t115 (⟨#[58,47,47]⟩ : ByteArray)).bind fun bt116 => (if bt116.2.2 = true then ((strings_Cut.f bt116.2.1 (⟨#[58]⟩ : ByteArray)).bind fun bt119 => ((origin_Default.f bt116.1).bind fun t122 => (if bt119.2.2 = true then ((origin_port.f k bt119.2.1).bind fun t124 => ((origin_Check.f k bt116.1 bt119.1 t124).bind fun t125 => (if t125 = true then (some (bt116.1,bt119.1,t124,0)) else (some ((⟨#[]⟩ : ByteArray),(⟨#[]⟩ : ByteArray),0,3))))) else ((origin_Check.f k bt116.1 bt119.1 t122).bind fun t126 => (if t126 = true then (some (bt116.1,bt119.1,t122,0)) else (some ((⟨#[]⟩ : ByteArray),(⟨#[]⟩ : ByteArray),0,3))))))) else (some ((⟨#[]⟩ : ByteArray),(⟨#[]⟩ : ByteArray),0,3)))) = some (r1,r2,r3,r4):=H
  have A5:=Aside0.mk A50
  clear A50
  replace H:=Option.bind_eq_some_iff.mp H
  obtain ⟨⟨t116,t117,t118⟩,A60,H⟩:=H
  replace H : (if t118 = true then ((strings_Cut.f t117 (⟨#[58]⟩ : ByteArray)).bind fun bt119 => ((origin_Default.f t116).bind fun t122 => (if bt119.2.2 = true then ((origin_port.f k bt119.2.1).bind fun t124 => ((origin_Check.f k t116 bt119.1 t124).bind fun t125 => (if t125 = true then (some (t116,bt119.1,t124,0)) else (some ((⟨#[]⟩ : ByteArray),(⟨#[]⟩ : ByteArray),0,3))))) else ((origin_Check.f k t116 bt119.1 t122).bind fun t126 => (if t126 = true then (some (t116,bt119.1,t122,0)) else (some ((⟨#[]⟩ : ByteArray),(⟨#[]⟩ : ByteArray),0,3))))))) else (some ((⟨#[]⟩ : ByteArray),(⟨#[]⟩ : ByteArray),0,3))) = some (r1,r2,r3,r4):=H
  have A6:=Aside0.mk A60
  clear A60
  by_cases c7 : t118 = true
  ·subst c7
   have H1 : ((strings_Cut.f t117 (⟨#[58]⟩ : ByteArray)).bind fun bt119 => ((origin_Default.f t116).bind fun t122 => (if bt119.2.2 = true then ((origin_port.f k bt119.2.1).bind fun t124 => ((origin_Check.f k t116 bt119.1 t124).bind fun t125 => (if t125 = true then (some (t116,bt119.1,t124,0)) else (some ((⟨#[]⟩ : ByteArray),(⟨#[]⟩ : ByteArray),0,3))))) else ((origin_Check.f k t116 bt119.1 t122).bind fun t126 => (if t126 = true then (some (t116,bt119.1,t122,0)) else (some ((⟨#[]⟩ : ByteArray),(⟨#[]⟩ : ByteArray),0,3))))))) = some (r1,r2,r3,r4):=by rw [if_pos rfl] at H;exact H
   clear H
   have H:=H1
   clear H1
   replace H:=Option.bind_eq_some_iff.mp H
   obtain ⟨⟨t119,t120,t121⟩,A80,H⟩:=H
   replace H : ((origin_Default.f t116).bind fun t122 => (if t121 = true then ((origin_port.f k t120).bind fun t124 => ((origin_Check.f k t116 t119 t124).bind fun t125 => (if t125 = true then (some (t116,t119,t124,0)) else (some ((⟨#[]⟩ : ByteArray),(⟨#[]⟩ : ByteArray),0,3))))) else ((origin_Check.f k t116 t119 t122).bind fun t126 => (if t126 = true then (some (t116,t119,t122,0)) else (some ((⟨#[]⟩ : ByteArray),(⟨#[]⟩ : ByteArray),0,3)))))) = some (r1,r2,r3,r4):=H
   have A8:=Aside0.mk A80
   clear A80
   replace H:=Option.bind_eq_some_iff.mp H
   obtain ⟨t122,A90,H⟩:=H
   replace H : (if t121 = true then ((origin_port.f k t120).bind fun t124 => ((origin_Check.f k t116 t119 t124).bind fun t125 => (if t125 = true then (some (t116,t119,t124,0)) else (some ((⟨#[]⟩ : ByteArray),(⟨#[]⟩ : ByteArray),0,3))))) else ((origin_Check.f k t116 t119 t122).bind fun t126 => (if t126 = true then (some (t116,t119,t122,0)) else (some ((⟨#[]⟩ : ByteArray),(⟨#[]⟩ : ByteArray),0,3))))) = some (r1,r2,r3,r4):=H
   have A9:=Aside0.mk A90
   clear A90
   by_cases c10 : t121 = true
   ·subst c10
    have H1 : ((origin_port.f k t120).bind fun t124 => ((origin_Check.f k t116 t119 t124).bind fun t125 => (if t125 = true then (some (t116,t119,t124,0)) else (some ((⟨#[]⟩ : ByteArray),(⟨#[]⟩ : ByteArray),0,3))))) = some (r1,r2,r3,r4):=by rw [if_pos rfl] at H;exact H
    clear H
    have H:=H1
    clear H1
    replace H:=Option.bind_eq_some_iff.mp H
    obtain ⟨t124,A110,H⟩:=H
    replace H : ((origin_Check.f k t116 t119 t124).bind fun t125 => (if t125 = true then (some (t116,t119,t124,0)) else (some ((⟨#[]⟩ : ByteArray),(⟨#[]⟩ : ByteArray),0,3)))) = some (r1,r2,r3,r4):=H
    have A11:=Aside0.mk A110
    clear A110
    replace H:=Option.bind_eq_some_iff.mp H
    obtain ⟨t125,A120,H⟩:=H
    replace H : (if t125 = true then (some (t116,t119,t124,0)) else (some ((⟨#[]⟩ : ByteArray),(⟨#[]⟩ : ByteArray),0,3))) = some (r1,r2,r3,r4):=H
    have A12:=Aside0.mk A120
    clear A120
    by_cases c13 : t125 = true
    ·subst c13
     have H1 : (some (t116,t119,t124,0)) = some (r1,r2,r3,r4):=by rw [if_pos rfl] at H;exact H
     clear H
     have H:=H1
     clear H1
     simp only [Option.some.injEq,Prod.mk.injEq] at H
     obtain ⟨rfl,rfl,rfl,rfl⟩:=H
     go_enter Tryd.func19,Tryd.ntmps19
     go_wp2_with (first|((with_reducible refine gate_dst (N:=2) rfl ?_);refine box_event ?hg (N:=2) ?hd (cs:=#[.string (⟨#[]⟩ : ByteArray),.string (⟨#[]⟩ : ByteArray),.int .i64 0]) (t:=23) ?hr ?_;(case hd => rfl);(case hg => rfl);(case hr => first|(go_simp;done)|(go_simp;rfl));intro gb114 hg w14 hbox hb;have n0_:=Aside0.mk (below_step (by repeat (first|(with_reducible first|exact HB.out|apply below_alloc|apply pw_below_drewN|apply below_drew1)|exact HB.out)) hb);have n1_:=Aside0.mk (hbox);have n2_:=Aside0.mk ((by rw [hg];exact (below_size (by repeat (first|(with_reducible first|exact HB.out|apply below_alloc|apply pw_below_drewN|apply below_drew1)|exact HB.out))) : w.heap.size ≤ gb114));have n3_:=Aside0.mk ((by rw [hg];exact (below_size (by repeat (first|(with_reducible first|exact HB.out|apply below_alloc|apply pw_below_drewN|apply below_drew1)|exact HB.out))) : w.heap.size ≤ gb114));clear HB;have HB:=n0_;have BK114:=n1_;have GW114:=n2_;have GE114:=n3_;clear n0_ n1_ n2_ n3_;clear hb hbox hg)|((with_reducible refine gate_callee (f:=45) rfl ?_);refine goesL_ (some 17) rfl rfl Tryd.func45 (by kernel_rfl) rfl #[.string a0] rfl (by (try simp only [List.map_toArray,List.map_cons,List.map_nil]);first|done|rfl|(simp only [List.length_drop,List.length_take];rfl)) ?_;(with_reducible refine (octet_Lower.calls a0 t115 _ A5.out).mono ?_);rintro e w15 ⟨rfl,hb⟩;refine ⟨_,rfl,?_⟩;have n0_:=Aside0.mk (blk_below (g:=gb114) (o:=.cells #[.string (⟨#[]⟩ : ByteArray),.string (⟨#[]⟩ : ByteArray),.int .i64 0] 23 (0,0)) (by (with_reducible repeat (first|refine blk_drewN ?_ _|refine blk_drew ?_|refine blk_alloc ?_ _));exact BK114.out) hb);have n1_:=Aside0.mk (below_step (by repeat (first|(with_reducible first|exact HB.out|apply below_alloc|apply pw_below_drewN|apply below_drew1|refine below_set ?_ GE114.out)|exact HB.out)) hb);clear BK114;clear HB;have BK114:=n0_;have HB:=n1_;clear n0_ n1_;(try clear hb);(try clear hb2);(try clear hk);(try clear hi))|((with_reducible refine gate_callee (f:=44) rfl ?_);refine goesL_ (some 18) rfl rfl Tryd.func44 (by kernel_rfl) rfl #[.string t115,.string (⟨#[58,47,47]⟩ : ByteArray)] rfl (by (try simp only [List.map_toArray,List.map_cons,List.map_nil]);first|done|rfl|(simp only [List.length_drop,List.length_take];rfl)) ?_;(with_reducible refine (strings_Cut.calls t115 (⟨#[58,47,47]⟩ : ByteArray) t116 t117 true _ ?side1 A6.out).mono ?_);(case side1 => exact ⟨by repeat (first|(with_reducible exact hM_.out)|(with_reducible exact LaidW.below hM_.out HB.out)|(with_reducible refine LaidW.alloc ?_ _)|(with_reducible refine LaidW.drewN ?_ _)|(with_reducible refine LaidW.drew ?_)|exact LaidW.below hM_.out (by repeat (first|(with_reducible first|exact HB.out|apply below_alloc|apply pw_below_drewN|apply below_drew1|refine below_set ?_ GE114.out)|exact HB.out)))⟩);rintro e w' ⟨rfl,⟨nd,rfl⟩⟩;refine ⟨_,rfl,?_⟩;(try (rw [drewN_self w15];generalize hq_ : World.drewN w15 _ = w15;have n0_ : Aside0 (w15.heap[gb114]? = some (.cells #[.string (⟨#[]⟩ : ByteArray),.string (⟨#[]⟩ : ByteArray),.int .i64 0] 23 (0,0))):=⟨by rw [← hq_];exact (by (with_reducible repeat (first|refine blk_drewN ?_ _|refine blk_drew ?_|refine blk_alloc ?_ _));exact BK114.out)⟩;have n1_ : Aside0 (Below w.heap.size w w15):=⟨by rw [← hq_];exact (by repeat (first|(with_reducible first|exact HB.out|apply below_alloc|apply pw_below_drewN|apply below_drew1|refine below_set ?_ GE114.out)|exact HB.out))⟩;clear BK114 HB hq_;have BK114:=n0_;have HB:=n1_;clear n0_ n1_)))|((with_reducible refine gate_callee (f:=44) rfl ?_);refine goesL_ (some 27) rfl rfl Tryd.func44 (by kernel_rfl) rfl #[.string t117,.string (⟨#[58]⟩ : ByteArray)] rfl (by (try simp only [List.map_toArray,List.map_cons,List.map_nil]);first|done|rfl|(simp only [List.length_drop,List.length_take];rfl)) ?_;(with_reducible refine (strings_Cut.calls t117 (⟨#[58]⟩ : ByteArray) t119 t120 true _ ?side1 A8.out).mono ?_);(case side1 => exact ⟨by repeat (first|(with_reducible exact hM_.out)|(with_reducible exact LaidW.below hM_.out HB.out)|(with_reducible refine LaidW.alloc ?_ _)|(with_reducible refine LaidW.drewN ?_ _)|(with_reducible refine LaidW.drew ?_)|exact LaidW.below hM_.out (by repeat (first|(with_reducible first|exact HB.out|apply below_alloc|apply pw_below_drewN|apply below_drew1|refine below_set ?_ GE114.out)|exact HB.out)))⟩);rintro e w' ⟨rfl,⟨nd,rfl⟩⟩;refine ⟨_,rfl,?_⟩;(try (rw [drewN_self w15];generalize hq_ : World.drewN w15 _ = w15;have n0_ : Aside0 (w15.heap[gb114]? = some (.cells #[.string (⟨#[]⟩ : ByteArray),.string (⟨#[]⟩ : ByteArray),.int .i64 0] 23 (0,0))):=⟨by rw [← hq_];exact (by (with_reducible repeat (first|refine blk_drewN ?_ _|refine blk_drew ?_|refine blk_alloc ?_ _));exact BK114.out)⟩;have n1_ : Aside0 (Below w.heap.size w w15):=⟨by rw [← hq_];exact (by repeat (first|(with_reducible first|exact HB.out|apply below_alloc|apply pw_below_drewN|apply below_drew1|refine below_set ?_ GE114.out)|exact HB.out))⟩;clear BK114 HB hq_;have BK114:=n0_;have HB:=n1_;clear n0_ n1_)))|((with_reducible refine gate_callee (f:=27) rfl ?_);refine goesL_ (some 34) rfl rfl Tryd.func27 (by kernel_rfl) rfl #[.string t116] rfl (by (try simp only [List.map_toArray,List.map_cons,List.map_nil]);first|done|rfl|(simp only [List.length_drop,List.length_take];rfl)) ?_;(with_reducible refine (origin_Default.calls t116 t122 _ A9.out).mono ?_);rintro e w' ⟨rfl,⟨nd,rfl⟩⟩;refine ⟨_,rfl,?_⟩;(try (rw [drewN_self w15];generalize hq_ : World.drewN w15 _ = w15;have n0_ : Aside0 (w15.heap[gb114]? = some (.cells #[.string (⟨#[]⟩ : ByteArray),.string (⟨#[]⟩ : ByteArray),.int .i64 0] 23 (0,0))):=⟨by rw [← hq_];exact (by (with_reducible repeat (first|refine blk_drewN ?_ _|refine blk_drew ?_|refine blk_alloc ?_ _));exact BK114.out)⟩;have n1_ : Aside0 (Below w.heap.size w w15):=⟨by rw [← hq_];exact (by repeat (first|(with_reducible first|exact HB.out|apply below_alloc|apply pw_below_drewN|apply below_drew1|refine below_set ?_ GE114.out)|exact HB.out))⟩;clear BK114 HB hq_;have BK114:=n0_;have HB:=n1_;clear n0_ n1_)))|((with_reducible refine gate_dst (N:=10) rfl ?_);refine box_event ?hg (N:=10) ?hd (cs:=#[.string (⟨#[]⟩ : ByteArray),.string (⟨#[]⟩ : ByteArray),.int .i64 0]) (t:=23) ?hr ?_;(case hd => rfl);(case hg => rfl);(case hr => first|(go_simp;done)|(go_simp;rfl));intro gb123 hg w16 hbox hb;have n0_:=Aside0.mk (blk_below (g:=gb114) (o:=.cells #[.string (⟨#[]⟩ : ByteArray),.string (⟨#[]⟩ : ByteArray),.int .i64 0] 23 (0,0)) (by (with_reducible repeat (first|refine blk_drewN ?_ _|refine blk_drew ?_|refine blk_alloc ?_ _));exact BK114.out) hb);have n1_:=Aside0.mk (below_step (by repeat (first|(with_reducible first|exact HB.out|apply below_alloc|apply pw_below_drewN|apply below_drew1|refine below_set ?_ GE114.out)|exact HB.out)) hb);have n2_:=Aside0.mk (hbox);have n3_:=Aside0.mk ((by rw [hg];exact (below_size (by repeat (first|(with_reducible first|exact HB.out|apply below_alloc|apply pw_below_drewN|apply below_drew1|refine below_set ?_ GE114.out)|exact HB.out))) : w.heap.size ≤ gb123));have n4_:=Aside0.mk ((by rw [hg];exact (below_size (by repeat (first|(with_reducible first|exact HB.out|apply below_alloc|apply pw_below_drewN|apply below_drew1|refine below_set ?_ GE114.out)|exact HB.out))) : w.heap.size ≤ gb123));have n5_:=Aside0.mk ((by rw [hg];exact Nat.ne_of_lt (blk_lt (g:=gb114) (o:=.cells #[.string (⟨#[]⟩ : ByteArray),.string (⟨#[]⟩ : ByteArray),.int .i64 0] 23 (0,0)) (by (with_reducible repeat (first|refine blk_drewN ?_ _|refine blk_drew ?_|refine blk_alloc ?_ _));exact BK114.out)) : gb114 ≠ gb123));have n6_:=Aside0.mk ((by rw [hg];exact Nat.ne_of_gt (blk_lt (g:=gb114) (o:=.cells #[.string (⟨#[]⟩ : ByteArray),.string (⟨#[]⟩ : ByteArray),.int .i64 0] 23 (0,0)) (by (with_reducible repeat (first|refine blk_drewN ?_ _|refine blk_drew ?_|refine blk_alloc ?_ _));exact BK114.out)) : gb123 ≠ gb114));clear BK114;clear HB;have BK114:=n0_;have HB:=n1_;have BK123:=n2_;have GW123:=n3_;have GE123:=n4_;have NB114_123:=n5_;have NB123_114:=n6_;clear n0_ n1_ n2_ n3_ n4_ n5_ n6_;clear hb hbox hg;have hnb17:=NB123_114.out;have hnc17:=NB114_123.out;have hcz18_0 : w16.cell? ⟨gb123,0,none⟩ = some (.string (⟨#[]⟩ : ByteArray)):=(blk_cell BK123.out 0).trans rfl;have hcz18_1 : w16.cell? ⟨gb123,1,none⟩ = some (.string (⟨#[]⟩ : ByteArray)):=(blk_cell BK123.out 1).trans rfl;have hcz18_2 : w16.cell? ⟨gb123,2,none⟩ = some (.int .i64 0):=(blk_cell BK123.out 2).trans rfl;have hfz18_0:=blk_frozen BK123.out 0;have hfz18_1:=blk_frozen BK123.out 1;have hfz18_2:=blk_frozen BK123.out 2)|((with_reducible refine gate_callee (f:=46) rfl ?_);refine goesL_ (some 38) rfl rfl Tryd.func46 (by kernel_rfl) rfl #[.string t120] rfl (by (try simp only [List.map_toArray,List.map_cons,List.map_nil]);first|done|rfl|(simp only [List.length_drop,List.length_take];rfl)) ?_;(with_reducible refine (origin_port.calls k t120 t124 _ A11.out).mono ?_);rintro e w19 ⟨rfl,hb⟩;refine ⟨_,rfl,?_⟩;have n0_:=Aside0.mk (blk_below (g:=gb114) (o:=.cells #[.string (⟨#[]⟩ : ByteArray),.string (⟨#[]⟩ : ByteArray),.int .i64 0] 23 (0,0)) (by (with_reducible repeat (first|refine blk_drewN ?_ _|refine blk_drew ?_|refine blk_alloc ?_ _));refine blk_far ?_ NB114_123.out _;(with_reducible repeat (first|refine blk_drewN ?_ _|refine blk_drew ?_|refine blk_alloc ?_ _));refine blk_far ?_ NB114_123.out _;(with_reducible repeat (first|refine blk_drewN ?_ _|refine blk_drew ?_|refine blk_alloc ?_ _));refine blk_far ?_ NB114_123.out _;(with_reducible repeat (first|refine blk_drewN ?_ _|refine blk_drew ?_|refine blk_alloc ?_ _));exact BK114.out) hb);have n1_:=Aside0.mk (blk_below (g:=gb123) (o:=.cells #[.string t116,.string t119,.int .i64 t122] 23 (0,0)) (by (with_reducible repeat (first|refine blk_drewN ?_ _|refine blk_drew ?_|refine blk_alloc ?_ _));refine blk_put (cs:=#[.string t116,.string t119,.int .i64 0]) ?_ 2 _ rfl;(with_reducible repeat (first|refine blk_drewN ?_ _|refine blk_drew ?_|refine blk_alloc ?_ _));refine blk_put (cs:=#[.string t116,.string (⟨#[]⟩ : ByteArray),.int .i64 0]) ?_ 1 _ rfl;(with_reducible repeat (first|refine blk_drewN ?_ _|refine blk_drew ?_|refine blk_alloc ?_ _));refine blk_put (cs:=#[.string (⟨#[]⟩ : ByteArray),.string (⟨#[]⟩ : ByteArray),.int .i64 0]) ?_ 0 _ rfl;(with_reducible repeat (first|refine blk_drewN ?_ _|refine blk_drew ?_|refine blk_alloc ?_ _));exact BK123.out) hb);have n2_:=Aside0.mk (below_step (by repeat (first|(with_reducible first|exact HB.out|apply below_alloc|apply pw_below_drewN|apply below_drew1|refine below_set ?_ GE114.out|refine below_set ?_ GE123.out)|exact HB.out)) hb);clear BK114;clear BK123;clear HB;have BK114:=n0_;have BK123:=n1_;have HB:=n2_;clear n0_ n1_ n2_;(try clear hb);(try clear hb2);(try clear hk);(try clear hi);have hcz20_0 : w19.cell? ⟨gb123,0,none⟩ = some (.string t116):=(blk_cell BK123.out 0).trans rfl;have hcz20_1 : w19.cell? ⟨gb123,1,none⟩ = some (.string t119):=(blk_cell BK123.out 1).trans rfl;have hcz20_2 : w19.cell? ⟨gb123,2,none⟩ = some (.int .i64 t122):=(blk_cell BK123.out 2).trans rfl;have hfz20_0:=blk_frozen BK123.out 0;have hfz20_1:=blk_frozen BK123.out 1;have hfz20_2:=blk_frozen BK123.out 2)|((with_reducible refine gate_callee (f:=21) rfl ?_);refine goesL_ (some 41) rfl rfl Tryd.func21 (by kernel_rfl) rfl #[.agg #[.string t116,.string t119,.int .i64 t124]] rfl (by (try simp only [List.map_toArray,List.map_cons,List.map_nil]);first|done|rfl|(simp only [List.length_drop,List.length_take];rfl)) ?_;(with_reducible refine (origin_Check.calls k t116 t119 t124 true _ A12.out).mono ?_);rintro e w21 ⟨rfl,hb⟩;refine ⟨_,rfl,?_⟩;have n0_:=Aside0.mk (blk_below (g:=gb114) (o:=.cells #[.string (⟨#[]⟩ : ByteArray),.string (⟨#[]⟩ : ByteArray),.int .i64 0] 23 (0,0)) (by (with_reducible repeat (first|refine blk_drewN ?_ _|refine blk_drew ?_|refine blk_alloc ?_ _));refine blk_far ?_ NB114_123.out _;(with_reducible repeat (first|refine blk_drewN ?_ _|refine blk_drew ?_|refine blk_alloc ?_ _));exact BK114.out) hb);have n1_:=Aside0.mk (blk_below (g:=gb123) (o:=.cells #[.string t116,.string t119,.int .i64 t124] 23 (0,0)) (by (with_reducible repeat (first|refine blk_drewN ?_ _|refine blk_drew ?_|refine blk_alloc ?_ _));refine blk_put (cs:=#[.string t116,.string t119,.int .i64 t122]) ?_ 2 _ rfl;(with_reducible repeat (first|refine blk_drewN ?_ _|refine blk_drew ?_|refine blk_alloc ?_ _));exact BK123.out) hb);have n2_:=Aside0.mk (below_step (by repeat (first|(with_reducible first|exact HB.out|apply below_alloc|apply pw_below_drewN|apply below_drew1|refine below_set ?_ GE114.out|refine below_set ?_ GE123.out)|exact HB.out)) hb);clear BK114;clear BK123;clear HB;have BK114:=n0_;have BK123:=n1_;have HB:=n2_;clear n0_ n1_ n2_;(try clear hb);(try clear hb2);(try clear hk);(try clear hi);have hcz22_0 : w21.cell? ⟨gb123,0,none⟩ = some (.string t116):=(blk_cell BK123.out 0).trans rfl;have hcz22_1 : w21.cell? ⟨gb123,1,none⟩ = some (.string t119):=(blk_cell BK123.out 1).trans rfl;have hcz22_2 : w21.cell? ⟨gb123,2,none⟩ = some (.int .i64 t124):=(blk_cell BK123.out 2).trans rfl;have hfz22_0:=blk_frozen BK123.out 0;have hfz22_1:=blk_frozen BK123.out 1;have hfz22_2:=blk_frozen BK123.out 2;have hcz23_0 : w21.cell? ⟨gb114,0,none⟩ = some (.string (⟨#[]⟩ : ByteArray)):=(blk_cell BK114.out 0).trans rfl;have hcz23_1 : w21.cell? ⟨gb114,1,none⟩ = some (.string (⟨#[]⟩ : ByteArray)):=(blk_cell BK114.out 1).trans rfl;have hcz23_2 : w21.cell? ⟨gb114,2,none⟩ = some (.int .i64 0):=(blk_cell BK114.out 2).trans rfl;have hfz23_0:=blk_frozen BK114.out 0;have hfz23_1:=blk_frozen BK114.out 1;have hfz23_2:=blk_frozen BK114.out 2))
     refine bodyPost_ret (results_ct rfl _ _ gb114 23 #[.string t116,.string t119,.int .i64 t124] (0,0) _ rfl (by (with_reducible repeat (first|refine blk_drewN ?_ _|refine blk_drew ?_|refine blk_alloc ?_ _));refine blk_put (cs:=#[.string t116,.string t119,.int .i64 0]) ?_ 2 _ rfl;(with_reducible repeat (first|refine blk_drewN ?_ _|refine blk_drew ?_|refine blk_alloc ?_ _));refine blk_put (cs:=#[.string t116,.string (⟨#[]⟩ : ByteArray),.int .i64 0]) ?_ 1 _ rfl;(with_reducible repeat (first|refine blk_drewN ?_ _|refine blk_drew ?_|refine blk_alloc ?_ _));refine blk_put (cs:=#[.string (⟨#[]⟩ : ByteArray),.string (⟨#[]⟩ : ByteArray),.int .i64 0]) ?_ 0 _ rfl;(with_reducible repeat (first|refine blk_drewN ?_ _|refine blk_drew ?_|refine blk_alloc ?_ _));exact BK114.out) Tryd.underlying23 rfl (by kernel_rfl)) rfl ?_
     exact ⟨by first|rfl|(simp [errW_none,errW_some] <;> rfl)|(simp [*,errW_none,errW_some] <;> rfl),by repeat (first|(with_reducible first|exact HB.out|apply below_alloc|apply pw_below_drewN|apply below_drew1|refine below_set ?_ GE114.out|refine below_set ?_ GE123.out)|exact HB.out)⟩
    ·replace c13:=Bool.eq_false_iff.mpr c13
     subst c13
     have H1 : (some ((⟨#[]⟩ : ByteArray),(⟨#[]⟩ : ByteArray),0,3)) = some (r1,r2,r3,r4):=by rw [if_neg (show ¬ (false = true) by decide)] at H;exact H
     clear H
     have H:=H1
     clear H1
     simp only [Option.some.injEq,Prod.mk.injEq] at H
     obtain ⟨rfl,rfl,rfl,rfl⟩:=H
     go_enter Tryd.func19,Tryd.ntmps19
     go_wp2_with (first|((with_reducible refine gate_dst (N:=2) rfl ?_);refine box_event ?hg (N:=2) ?hd (cs:=#[.string (⟨#[]⟩ : ByteArray),.string (⟨#[]⟩ : ByteArray),.int .i64 0]) (t:=23) ?hr ?_;(case hd => rfl);(case hg => rfl);(case hr => first|(go_simp;done)|(go_simp;rfl));intro gb114 hg w24 hbox hb;have n0_:=Aside0.mk (below_step (by repeat (first|(with_reducible first|exact HB.out|apply below_alloc|apply pw_below_drewN|apply below_drew1)|exact HB.out)) hb);have n1_:=Aside0.mk (hbox);have n2_:=Aside0.mk ((by rw [hg];exact (below_size (by repeat (first|(with_reducible first|exact HB.out|apply below_alloc|apply pw_below_drewN|apply below_drew1)|exact HB.out))) : w.heap.size ≤ gb114));have n3_:=Aside0.mk ((by rw [hg];exact (below_size (by repeat (first|(with_reducible first|exact HB.out|apply below_alloc|apply pw_below_drewN|apply below_drew1)|exact HB.out))) : w.heap.size ≤ gb114));clear HB;have HB:=n0_;have BK114:=n1_;have GW114:=n2_;have GE114:=n3_;clear n0_ n1_ n2_ n3_;clear hb hbox hg)|((with_reducible refine gate_callee (f:=45) rfl ?_);refine goesL_ (some 17) rfl rfl Tryd.func45 (by kernel_rfl) rfl #[.string a0] rfl (by (try simp only [List.map_toArray,List.map_cons,List.map_nil]);first|done|rfl|(simp only [List.length_drop,List.length_take];rfl)) ?_;(with_reducible refine (octet_Lower.calls a0 t115 _ A5.out).mono ?_);rintro e w25 ⟨rfl,hb⟩;refine ⟨_,rfl,?_⟩;have n0_:=Aside0.mk (blk_below (g:=gb114) (o:=.cells #[.string (⟨#[]⟩ : ByteArray),.string (⟨#[]⟩ : ByteArray),.int .i64 0] 23 (0,0)) (by (with_reducible repeat (first|refine blk_drewN ?_ _|refine blk_drew ?_|refine blk_alloc ?_ _));exact BK114.out) hb);have n1_:=Aside0.mk (below_step (by repeat (first|(with_reducible first|exact HB.out|apply below_alloc|apply pw_below_drewN|apply below_drew1|refine below_set ?_ GE114.out)|exact HB.out)) hb);clear BK114;clear HB;have BK114:=n0_;have HB:=n1_;clear n0_ n1_;(try clear hb);(try clear hb2);(try clear hk);(try clear hi))|((with_reducible refine gate_callee (f:=44) rfl ?_);refine goesL_ (some 18) rfl rfl Tryd.func44 (by kernel_rfl) rfl #[.string t115,.string (⟨#[58,47,47]⟩ : ByteArray)] rfl (by (try simp only [List.map_toArray,List.map_cons,List.map_nil]);first|done|rfl|(simp only [List.length_drop,List.length_take];rfl)) ?_;(with_reducible refine (strings_Cut.calls t115 (⟨#[58,47,47]⟩ : ByteArray) t116 t117 true _ ?side1 A6.out).mono ?_);(case side1 => exact ⟨by repeat (first|(with_reducible exact hM_.out)|(with_reducible exact LaidW.below hM_.out HB.out)|(with_reducible refine LaidW.alloc ?_ _)|(with_reducible refine LaidW.drewN ?_ _)|(with_reducible refine LaidW.drew ?_)|exact LaidW.below hM_.out (by repeat (first|(with_reducible first|exact HB.out|apply below_alloc|apply pw_below_drewN|apply below_drew1|refine below_set ?_ GE114.out)|exact HB.out)))⟩);rintro e w' ⟨rfl,⟨nd,rfl⟩⟩;refine ⟨_,rfl,?_⟩;(try (rw [drewN_self w25];generalize hq_ : World.drewN w25 _ = w25;have n0_ : Aside0 (w25.heap[gb114]? = some (.cells #[.string (⟨#[]⟩ : ByteArray),.string (⟨#[]⟩ : ByteArray),.int .i64 0] 23 (0,0))):=⟨by rw [← hq_];exact (by (with_reducible repeat (first|refine blk_drewN ?_ _|refine blk_drew ?_|refine blk_alloc ?_ _));exact BK114.out)⟩;have n1_ : Aside0 (Below w.heap.size w w25):=⟨by rw [← hq_];exact (by repeat (first|(with_reducible first|exact HB.out|apply below_alloc|apply pw_below_drewN|apply below_drew1|refine below_set ?_ GE114.out)|exact HB.out))⟩;clear BK114 HB hq_;have BK114:=n0_;have HB:=n1_;clear n0_ n1_)))|((with_reducible refine gate_callee (f:=44) rfl ?_);refine goesL_ (some 27) rfl rfl Tryd.func44 (by kernel_rfl) rfl #[.string t117,.string (⟨#[58]⟩ : ByteArray)] rfl (by (try simp only [List.map_toArray,List.map_cons,List.map_nil]);first|done|rfl|(simp only [List.length_drop,List.length_take];rfl)) ?_;(with_reducible refine (strings_Cut.calls t117 (⟨#[58]⟩ : ByteArray) t119 t120 true _ ?side1 A8.out).mono ?_);(case side1 => exact ⟨by repeat (first|(with_reducible exact hM_.out)|(with_reducible exact LaidW.below hM_.out HB.out)|(with_reducible refine LaidW.alloc ?_ _)|(with_reducible refine LaidW.drewN ?_ _)|(with_reducible refine LaidW.drew ?_)|exact LaidW.below hM_.out (by repeat (first|(with_reducible first|exact HB.out|apply below_alloc|apply pw_below_drewN|apply below_drew1|refine below_set ?_ GE114.out)|exact HB.out)))⟩);rintro e w' ⟨rfl,⟨nd,rfl⟩⟩;refine ⟨_,rfl,?_⟩;(try (rw [drewN_self w25];generalize hq_ : World.drewN w25 _ = w25;have n0_ : Aside0 (w25.heap[gb114]? = some (.cells #[.string (⟨#[]⟩ : ByteArray),.string (⟨#[]⟩ : ByteArray),.int .i64 0] 23 (0,0))):=⟨by rw [← hq_];exact (by (with_reducible repeat (first|refine blk_drewN ?_ _|refine blk_drew ?_|refine blk_alloc ?_ _));exact BK114.out)⟩;have n1_ : Aside0 (Below w.heap.size w w25):=⟨by rw [← hq_];exact (by repeat (first|(with_reducible first|exact HB.out|apply below_alloc|apply pw_below_drewN|apply below_drew1|refine below_set ?_ GE114.out)|exact HB.out))⟩;clear BK114 HB hq_;have BK114:=n0_;have HB:=n1_;clear n0_ n1_)))|((with_reducible refine gate_callee (f:=27) rfl ?_);refine goesL_ (some 34) rfl rfl Tryd.func27 (by kernel_rfl) rfl #[.string t116] rfl (by (try simp only [List.map_toArray,List.map_cons,List.map_nil]);first|done|rfl|(simp only [List.length_drop,List.length_take];rfl)) ?_;(with_reducible refine (origin_Default.calls t116 t122 _ A9.out).mono ?_);rintro e w' ⟨rfl,⟨nd,rfl⟩⟩;refine ⟨_,rfl,?_⟩;(try (rw [drewN_self w25];generalize hq_ : World.drewN w25 _ = w25;have n0_ : Aside0 (w25.heap[gb114]? = some (.cells #[.string (⟨#[]⟩ : ByteArray),.string (⟨#[]⟩ : ByteArray),.int .i64 0] 23 (0,0))):=⟨by rw [← hq_];exact (by (with_reducible repeat (first|refine blk_drewN ?_ _|refine blk_drew ?_|refine blk_alloc ?_ _));exact BK114.out)⟩;have n1_ : Aside0 (Below w.heap.size w w25):=⟨by rw [← hq_];exact (by repeat (first|(with_reducible first|exact HB.out|apply below_alloc|apply pw_below_drewN|apply below_drew1|refine below_set ?_ GE114.out)|exact HB.out))⟩;clear BK114 HB hq_;have BK114:=n0_;have HB:=n1_;clear n0_ n1_)))|((with_reducible refine gate_dst (N:=10) rfl ?_);refine box_event ?hg (N:=10) ?hd (cs:=#[.string (⟨#[]⟩ : ByteArray),.string (⟨#[]⟩ : ByteArray),.int .i64 0]) (t:=23) ?hr ?_;(case hd => rfl);(case hg => rfl);(case hr => first|(go_simp;done)|(go_simp;rfl));intro gb123 hg w26 hbox hb;have n0_:=Aside0.mk (blk_below (g:=gb114) (o:=.cells #[.string (⟨#[]⟩ : ByteArray),.string (⟨#[]⟩ : ByteArray),.int .i64 0] 23 (0,0)) (by (with_reducible repeat (first|refine blk_drewN ?_ _|refine blk_drew ?_|refine blk_alloc ?_ _));exact BK114.out) hb);have n1_:=Aside0.mk (below_step (by repeat (first|(with_reducible first|exact HB.out|apply below_alloc|apply pw_below_drewN|apply below_drew1|refine below_set ?_ GE114.out)|exact HB.out)) hb);have n2_:=Aside0.mk (hbox);have n3_:=Aside0.mk ((by rw [hg];exact (below_size (by repeat (first|(with_reducible first|exact HB.out|apply below_alloc|apply pw_below_drewN|apply below_drew1|refine below_set ?_ GE114.out)|exact HB.out))) : w.heap.size ≤ gb123));have n4_:=Aside0.mk ((by rw [hg];exact (below_size (by repeat (first|(with_reducible first|exact HB.out|apply below_alloc|apply pw_below_drewN|apply below_drew1|refine below_set ?_ GE114.out)|exact HB.out))) : w.heap.size ≤ gb123));have n5_:=Aside0.mk ((by rw [hg];exact Nat.ne_of_lt (blk_lt (g:=gb114) (o:=.cells #[.string (⟨#[]⟩ : ByteArray),.string (⟨#[]⟩ : ByteArray),.int .i64 0] 23 (0,0)) (by (with_reducible repeat (first|refine blk_drewN ?_ _|refine blk_drew ?_|refine blk_alloc ?_ _));exact BK114.out)) : gb114 ≠ gb123));have n6_:=Aside0.mk ((by rw [hg];exact Nat.ne_of_gt (blk_lt (g:=gb114) (o:=.cells #[.string (⟨#[]⟩ : ByteArray),.string (⟨#[]⟩ : ByteArray),.int .i64 0] 23 (0,0)) (by (with_reducible repeat (first|refine blk_drewN ?_ _|refine blk_drew ?_|refine blk_alloc ?_ _));exact BK114.out)) : gb123 ≠ gb114));clear BK114;clear HB;have BK114:=n0_;have HB:=n1_;have BK123:=n2_;have GW123:=n3_;have GE123:=n4_;have NB114_123:=n5_;have NB123_114:=n6_;clear n0_ n1_ n2_ n3_ n4_ n5_ n6_;clear hb hbox hg;have hnb27:=NB123_114.out;have hnc27:=NB114_123.out;have hcz28_0 : w26.cell? ⟨gb123,0,none⟩ = some (.string (⟨#[]⟩ : ByteArray)):=(blk_cell BK123.out 0).trans rfl;have hcz28_1 : w26.cell? ⟨gb123,1,none⟩ = some (.string (⟨#[]⟩ : ByteArray)):=(blk_cell BK123.out 1).trans rfl;have hcz28_2 : w26.cell? ⟨gb123,2,none⟩ = some (.int .i64 0):=(blk_cell BK123.out 2).trans rfl;have hfz28_0:=blk_frozen BK123.out 0;have hfz28_1:=blk_frozen BK123.out 1;have hfz28_2:=blk_frozen BK123.out 2)|((with_reducible refine gate_callee (f:=46) rfl ?_);refine goesL_ (some 38) rfl rfl Tryd.func46 (by kernel_rfl) rfl #[.string t120] rfl (by (try simp only [List.map_toArray,List.map_cons,List.map_nil]);first|done|rfl|(simp only [List.length_drop,List.length_take];rfl)) ?_;(with_reducible refine (origin_port.calls k t120 t124 _ A11.out).mono ?_);rintro e w29 ⟨rfl,hb⟩;refine ⟨_,rfl,?_⟩;have n0_:=Aside0.mk (blk_below (g:=gb114) (o:=.cells #[.string (⟨#[]⟩ : ByteArray),.string (⟨#[]⟩ : ByteArray),.int .i64 0] 23 (0,0)) (by (with_reducible repeat (first|refine blk_drewN ?_ _|refine blk_drew ?_|refine blk_alloc ?_ _));refine blk_far ?_ NB114_123.out _;(with_reducible repeat (first|refine blk_drewN ?_ _|refine blk_drew ?_|refine blk_alloc ?_ _));refine blk_far ?_ NB114_123.out _;(with_reducible repeat (first|refine blk_drewN ?_ _|refine blk_drew ?_|refine blk_alloc ?_ _));refine blk_far ?_ NB114_123.out _;(with_reducible repeat (first|refine blk_drewN ?_ _|refine blk_drew ?_|refine blk_alloc ?_ _));exact BK114.out) hb);have n1_:=Aside0.mk (blk_below (g:=gb123) (o:=.cells #[.string t116,.string t119,.int .i64 t122] 23 (0,0)) (by (with_reducible repeat (first|refine blk_drewN ?_ _|refine blk_drew ?_|refine blk_alloc ?_ _));refine blk_put (cs:=#[.string t116,.string t119,.int .i64 0]) ?_ 2 _ rfl;(with_reducible repeat (first|refine blk_drewN ?_ _|refine blk_drew ?_|refine blk_alloc ?_ _));refine blk_put (cs:=#[.string t116,.string (⟨#[]⟩ : ByteArray),.int .i64 0]) ?_ 1 _ rfl;(with_reducible repeat (first|refine blk_drewN ?_ _|refine blk_drew ?_|refine blk_alloc ?_ _));refine blk_put (cs:=#[.string (⟨#[]⟩ : ByteArray),.string (⟨#[]⟩ : ByteArray),.int .i64 0]) ?_ 0 _ rfl;(with_reducible repeat (first|refine blk_drewN ?_ _|refine blk_drew ?_|refine blk_alloc ?_ _));exact BK123.out) hb);have n2_:=Aside0.mk (below_step (by repeat (first|(with_reducible first|exact HB.out|apply below_alloc|apply pw_below_drewN|apply below_drew1|refine below_set ?_ GE114.out|refine below_set ?_ GE123.out)|exact HB.out)) hb);clear BK114;clear BK123;clear HB;have BK114:=n0_;have BK123:=n1_;have HB:=n2_;clear n0_ n1_ n2_;(try clear hb);(try clear hb2);(try clear hk);(try clear hi);have hcz30_0 : w29.cell? ⟨gb123,0,none⟩ = some (.string t116):=(blk_cell BK123.out 0).trans rfl;have hcz30_1 : w29.cell? ⟨gb123,1,none⟩ = some (.string t119):=(blk_cell BK123.out 1).trans rfl;have hcz30_2 : w29.cell? ⟨gb123,2,none⟩ = some (.int .i64 t122):=(blk_cell BK123.out 2).trans rfl;have hfz30_0:=blk_frozen BK123.out 0;have hfz30_1:=blk_frozen BK123.out 1;have hfz30_2:=blk_frozen BK123.out 2)|((with_reducible refine gate_callee (f:=21) rfl ?_);refine goesL_ (some 41) rfl rfl Tryd.func21 (by kernel_rfl) rfl #[.agg #[.string t116,.string t119,.int .i64 t124]] rfl (by (try simp only [List.map_toArray,List.map_cons,List.map_nil]);first|done|rfl|(simp only [List.length_drop,List.length_take];rfl)) ?_;(with_reducible refine (origin_Check.calls k t116 t119 t124 false _ A12.out).mono ?_);rintro e w31 ⟨rfl,hb⟩;refine ⟨_,rfl,?_⟩;have n0_:=Aside0.mk (blk_below (g:=gb114) (o:=.cells #[.string (⟨#[]⟩ : ByteArray),.string (⟨#[]⟩ : ByteArray),.int .i64 0] 23 (0,0)) (by (with_reducible repeat (first|refine blk_drewN ?_ _|refine blk_drew ?_|refine blk_alloc ?_ _));refine blk_far ?_ NB114_123.out _;(with_reducible repeat (first|refine blk_drewN ?_ _|refine blk_drew ?_|refine blk_alloc ?_ _));exact BK114.out) hb);have n1_:=Aside0.mk (blk_below (g:=gb123) (o:=.cells #[.string t116,.string t119,.int .i64 t124] 23 (0,0)) (by (with_reducible repeat (first|refine blk_drewN ?_ _|refine blk_drew ?_|refine blk_alloc ?_ _));refine blk_put (cs:=#[.string t116,.string t119,.int .i64 t122]) ?_ 2 _ rfl;(with_reducible repeat (first|refine blk_drewN ?_ _|refine blk_drew ?_|refine blk_alloc ?_ _));exact BK123.out) hb);have n2_:=Aside0.mk (below_step (by repeat (first|(with_reducible first|exact HB.out|apply below_alloc|apply pw_below_drewN|apply below_drew1|refine below_set ?_ GE114.out|refine below_set ?_ GE123.out)|exact HB.out)) hb);clear BK114;clear BK123;clear HB;have BK114:=n0_;have BK123:=n1_;have HB:=n2_;clear n0_ n1_ n2_;(try clear hb);(try clear hb2);(try clear hk);(try clear hi);have hcz32_0 : w31.cell? ⟨gb114,0,none⟩ = some (.string (⟨#[]⟩ : ByteArray)):=(blk_cell BK114.out 0).trans rfl;have hcz32_1 : w31.cell? ⟨gb114,1,none⟩ = some (.string (⟨#[]⟩ : ByteArray)):=(blk_cell BK114.out 1).trans rfl;have hcz32_2 : w31.cell? ⟨gb114,2,none⟩ = some (.int .i64 0):=(blk_cell BK114.out 2).trans rfl;have hfz32_0:=blk_frozen BK114.out 0;have hfz32_1:=blk_frozen BK114.out 1;have hfz32_2:=blk_frozen BK114.out 2))
     refine bodyPost_ret (results_ct rfl _ _ gb114 23 #[.string (⟨#[]⟩ : ByteArray),.string (⟨#[]⟩ : ByteArray),.int .i64 0] (0,0) _ rfl (by (with_reducible repeat (first|refine blk_drewN ?_ _|refine blk_drew ?_|refine blk_alloc ?_ _));refine blk_put (cs:=#[.string (⟨#[]⟩ : ByteArray),.string (⟨#[]⟩ : ByteArray),.int .i64 0]) ?_ 2 _ rfl;(with_reducible repeat (first|refine blk_drewN ?_ _|refine blk_drew ?_|refine blk_alloc ?_ _));refine blk_put (cs:=#[.string (⟨#[]⟩ : ByteArray),.string (⟨#[]⟩ : ByteArray),.int .i64 0]) ?_ 1 _ rfl;(with_reducible repeat (first|refine blk_drewN ?_ _|refine blk_drew ?_|refine blk_alloc ?_ _));refine blk_put (cs:=#[.string (⟨#[]⟩ : ByteArray),.string (⟨#[]⟩ : ByteArray),.int .i64 0]) ?_ 0 _ rfl;(with_reducible repeat (first|refine blk_drewN ?_ _|refine blk_drew ?_|refine blk_alloc ?_ _));exact BK114.out) Tryd.underlying23 rfl (by kernel_rfl)) rfl ?_
     exact ⟨by first|rfl|(simp [errW_none,errW_some] <;> rfl)|(simp [*,errW_none,errW_some] <;> rfl),by repeat (first|(with_reducible first|exact HB.out|apply below_alloc|apply pw_below_drewN|apply below_drew1|refine below_set ?_ GE114.out|refine below_set ?_ GE123.out)|exact HB.out)⟩
   ·replace c10:=Bool.eq_false_iff.mpr c10
    subst c10
    have H1 : ((origin_Check.f k t116 t119 t122).bind fun t126 => (if t126 = true then (some (t116,t119,t122,0)) else (some ((⟨#[]⟩ : ByteArray),(⟨#[]⟩ : ByteArray),0,3)))) = some (r1,r2,r3,r4):=by rw [if_neg (show ¬ (false = true) by decide)] at H;exact H
    clear H
    have H:=H1
    clear H1
    replace H:=Option.bind_eq_some_iff.mp H
    obtain ⟨t126,A330,H⟩:=H
    replace H : (if t126 = true then (some (t116,t119,t122,0)) else (some ((⟨#[]⟩ : ByteArray),(⟨#[]⟩ : ByteArray),0,3))) = some (r1,r2,r3,r4):=H
    have A33:=Aside0.mk A330
    clear A330
    by_cases c34 : t126 = true
    ·subst c34
     have H1 : (some (t116,t119,t122,0)) = some (r1,r2,r3,r4):=by rw [if_pos rfl] at H;exact H
     clear H
     have H:=H1
     clear H1
     simp only [Option.some.injEq,Prod.mk.injEq] at H
     obtain ⟨rfl,rfl,rfl,rfl⟩:=H
     go_enter Tryd.func19,Tryd.ntmps19
     go_wp2_with (first|((with_reducible refine gate_dst (N:=2) rfl ?_);refine box_event ?hg (N:=2) ?hd (cs:=#[.string (⟨#[]⟩ : ByteArray),.string (⟨#[]⟩ : ByteArray),.int .i64 0]) (t:=23) ?hr ?_;(case hd => rfl);(case hg => rfl);(case hr => first|(go_simp;done)|(go_simp;rfl));intro gb114 hg w35 hbox hb;have n0_:=Aside0.mk (below_step (by repeat (first|(with_reducible first|exact HB.out|apply below_alloc|apply pw_below_drewN|apply below_drew1)|exact HB.out)) hb);have n1_:=Aside0.mk (hbox);have n2_:=Aside0.mk ((by rw [hg];exact (below_size (by repeat (first|(with_reducible first|exact HB.out|apply below_alloc|apply pw_below_drewN|apply below_drew1)|exact HB.out))) : w.heap.size ≤ gb114));have n3_:=Aside0.mk ((by rw [hg];exact (below_size (by repeat (first|(with_reducible first|exact HB.out|apply below_alloc|apply pw_below_drewN|apply below_drew1)|exact HB.out))) : w.heap.size ≤ gb114));clear HB;have HB:=n0_;have BK114:=n1_;have GW114:=n2_;have GE114:=n3_;clear n0_ n1_ n2_ n3_;clear hb hbox hg)|((with_reducible refine gate_callee (f:=45) rfl ?_);refine goesL_ (some 17) rfl rfl Tryd.func45 (by kernel_rfl) rfl #[.string a0] rfl (by (try simp only [List.map_toArray,List.map_cons,List.map_nil]);first|done|rfl|(simp only [List.length_drop,List.length_take];rfl)) ?_;(with_reducible refine (octet_Lower.calls a0 t115 _ A5.out).mono ?_);rintro e w36 ⟨rfl,hb⟩;refine ⟨_,rfl,?_⟩;have n0_:=Aside0.mk (blk_below (g:=gb114) (o:=.cells #[.string (⟨#[]⟩ : ByteArray),.string (⟨#[]⟩ : ByteArray),.int .i64 0] 23 (0,0)) (by (with_reducible repeat (first|refine blk_drewN ?_ _|refine blk_drew ?_|refine blk_alloc ?_ _));exact BK114.out) hb);have n1_:=Aside0.mk (below_step (by repeat (first|(with_reducible first|exact HB.out|apply below_alloc|apply pw_below_drewN|apply below_drew1|refine below_set ?_ GE114.out)|exact HB.out)) hb);clear BK114;clear HB;have BK114:=n0_;have HB:=n1_;clear n0_ n1_;(try clear hb);(try clear hb2);(try clear hk);(try clear hi))|((with_reducible refine gate_callee (f:=44) rfl ?_);refine goesL_ (some 18) rfl rfl Tryd.func44 (by kernel_rfl) rfl #[.string t115,.string (⟨#[58,47,47]⟩ : ByteArray)] rfl (by (try simp only [List.map_toArray,List.map_cons,List.map_nil]);first|done|rfl|(simp only [List.length_drop,List.length_take];rfl)) ?_;(with_reducible refine (strings_Cut.calls t115 (⟨#[58,47,47]⟩ : ByteArray) t116 t117 true _ ?side1 A6.out).mono ?_);(case side1 => exact ⟨by repeat (first|(with_reducible exact hM_.out)|(with_reducible exact LaidW.below hM_.out HB.out)|(with_reducible refine LaidW.alloc ?_ _)|(with_reducible refine LaidW.drewN ?_ _)|(with_reducible refine LaidW.drew ?_)|exact LaidW.below hM_.out (by repeat (first|(with_reducible first|exact HB.out|apply below_alloc|apply pw_below_drewN|apply below_drew1|refine below_set ?_ GE114.out)|exact HB.out)))⟩);rintro e w' ⟨rfl,⟨nd,rfl⟩⟩;refine ⟨_,rfl,?_⟩;(try (rw [drewN_self w36];generalize hq_ : World.drewN w36 _ = w36;have n0_ : Aside0 (w36.heap[gb114]? = some (.cells #[.string (⟨#[]⟩ : ByteArray),.string (⟨#[]⟩ : ByteArray),.int .i64 0] 23 (0,0))):=⟨by rw [← hq_];exact (by (with_reducible repeat (first|refine blk_drewN ?_ _|refine blk_drew ?_|refine blk_alloc ?_ _));exact BK114.out)⟩;have n1_ : Aside0 (Below w.heap.size w w36):=⟨by rw [← hq_];exact (by repeat (first|(with_reducible first|exact HB.out|apply below_alloc|apply pw_below_drewN|apply below_drew1|refine below_set ?_ GE114.out)|exact HB.out))⟩;clear BK114 HB hq_;have BK114:=n0_;have HB:=n1_;clear n0_ n1_)))|((with_reducible refine gate_callee (f:=44) rfl ?_);refine goesL_ (some 27) rfl rfl Tryd.func44 (by kernel_rfl) rfl #[.string t117,.string (⟨#[58]⟩ : ByteArray)] rfl (by (try simp only [List.map_toArray,List.map_cons,List.map_nil]);first|done|rfl|(simp only [List.length_drop,List.length_take];rfl)) ?_;(with_reducible refine (strings_Cut.calls t117 (⟨#[58]⟩ : ByteArray) t119 t120 false _ ?side1 A8.out).mono ?_);(case side1 => exact ⟨by repeat (first|(with_reducible exact hM_.out)|(with_reducible exact LaidW.below hM_.out HB.out)|(with_reducible refine LaidW.alloc ?_ _)|(with_reducible refine LaidW.drewN ?_ _)|(with_reducible refine LaidW.drew ?_)|exact LaidW.below hM_.out (by repeat (first|(with_reducible first|exact HB.out|apply below_alloc|apply pw_below_drewN|apply below_drew1|refine below_set ?_ GE114.out)|exact HB.out)))⟩);rintro e w' ⟨rfl,⟨nd,rfl⟩⟩;refine ⟨_,rfl,?_⟩;(try (rw [drewN_self w36];generalize hq_ : World.drewN w36 _ = w36;have n0_ : Aside0 (w36.heap[gb114]? = some (.cells #[.string (⟨#[]⟩ : ByteArray),.string (⟨#[]⟩ : ByteArray),.int .i64 0] 23 (0,0))):=⟨by rw [← hq_];exact (by (with_reducible repeat (first|refine blk_drewN ?_ _|refine blk_drew ?_|refine blk_alloc ?_ _));exact BK114.out)⟩;have n1_ : Aside0 (Below w.heap.size w w36):=⟨by rw [← hq_];exact (by repeat (first|(with_reducible first|exact HB.out|apply below_alloc|apply pw_below_drewN|apply below_drew1|refine below_set ?_ GE114.out)|exact HB.out))⟩;clear BK114 HB hq_;have BK114:=n0_;have HB:=n1_;clear n0_ n1_)))|((with_reducible refine gate_callee (f:=27) rfl ?_);refine goesL_ (some 34) rfl rfl Tryd.func27 (by kernel_rfl) rfl #[.string t116] rfl (by (try simp only [List.map_toArray,List.map_cons,List.map_nil]);first|done|rfl|(simp only [List.length_drop,List.length_take];rfl)) ?_;(with_reducible refine (origin_Default.calls t116 t122 _ A9.out).mono ?_);rintro e w' ⟨rfl,⟨nd,rfl⟩⟩;refine ⟨_,rfl,?_⟩;(try (rw [drewN_self w36];generalize hq_ : World.drewN w36 _ = w36;have n0_ : Aside0 (w36.heap[gb114]? = some (.cells #[.string (⟨#[]⟩ : ByteArray),.string (⟨#[]⟩ : ByteArray),.int .i64 0] 23 (0,0))):=⟨by rw [← hq_];exact (by (with_reducible repeat (first|refine blk_drewN ?_ _|refine blk_drew ?_|refine blk_alloc ?_ _));exact BK114.out)⟩;have n1_ : Aside0 (Below w.heap.size w w36):=⟨by rw [← hq_];exact (by repeat (first|(with_reducible first|exact HB.out|apply below_alloc|apply pw_below_drewN|apply below_drew1|refine below_set ?_ GE114.out)|exact HB.out))⟩;clear BK114 HB hq_;have BK114:=n0_;have HB:=n1_;clear n0_ n1_)))|((with_reducible refine gate_dst (N:=10) rfl ?_);refine box_event ?hg (N:=10) ?hd (cs:=#[.string (⟨#[]⟩ : ByteArray),.string (⟨#[]⟩ : ByteArray),.int .i64 0]) (t:=23) ?hr ?_;(case hd => rfl);(case hg => rfl);(case hr => first|(go_simp;done)|(go_simp;rfl));intro gb123 hg w37 hbox hb;have n0_:=Aside0.mk (blk_below (g:=gb114) (o:=.cells #[.string (⟨#[]⟩ : ByteArray),.string (⟨#[]⟩ : ByteArray),.int .i64 0] 23 (0,0)) (by (with_reducible repeat (first|refine blk_drewN ?_ _|refine blk_drew ?_|refine blk_alloc ?_ _));exact BK114.out) hb);have n1_:=Aside0.mk (below_step (by repeat (first|(with_reducible first|exact HB.out|apply below_alloc|apply pw_below_drewN|apply below_drew1|refine below_set ?_ GE114.out)|exact HB.out)) hb);have n2_:=Aside0.mk (hbox);have n3_:=Aside0.mk ((by rw [hg];exact (below_size (by repeat (first|(with_reducible first|exact HB.out|apply below_alloc|apply pw_below_drewN|apply below_drew1|refine below_set ?_ GE114.out)|exact HB.out))) : w.heap.size ≤ gb123));have n4_:=Aside0.mk ((by rw [hg];exact (below_size (by repeat (first|(with_reducible first|exact HB.out|apply below_alloc|apply pw_below_drewN|apply below_drew1|refine below_set ?_ GE114.out)|exact HB.out))) : w.heap.size ≤ gb123));have n5_:=Aside0.mk ((by rw [hg];exact Nat.ne_of_lt (blk_lt (g:=gb114) (o:=.cells #[.string (⟨#[]⟩ : ByteArray),.string (⟨#[]⟩ : ByteArray),.int .i64 0] 23 (0,0)) (by (with_reducible repeat (first|refine blk_drewN ?_ _|refine blk_drew ?_|refine blk_alloc ?_ _));exact BK114.out)) : gb114 ≠ gb123));have n6_:=Aside0.mk ((by rw [hg];exact Nat.ne_of_gt (blk_lt (g:=gb114) (o:=.cells #[.string (⟨#[]⟩ : ByteArray),.string (⟨#[]⟩ : ByteArray),.int .i64 0] 23 (0,0)) (by (with_reducible repeat (first|refine blk_drewN ?_ _|refine blk_drew ?_|refine blk_alloc ?_ _));exact BK114.out)) : gb123 ≠ gb114));clear BK114;clear HB;have BK114:=n0_;have HB:=n1_;have BK123:=n2_;have GW123:=n3_;have GE123:=n4_;have NB114_123:=n5_;have NB123_114:=n6_;clear n0_ n1_ n2_ n3_ n4_ n5_ n6_;clear hb hbox hg;have hnb38:=NB123_114.out;have hnc38:=NB114_123.out;have hcz39_0 : w37.cell? ⟨gb123,0,none⟩ = some (.string (⟨#[]⟩ : ByteArray)):=(blk_cell BK123.out 0).trans rfl;have hcz39_1 : w37.cell? ⟨gb123,1,none⟩ = some (.string (⟨#[]⟩ : ByteArray)):=(blk_cell BK123.out 1).trans rfl;have hcz39_2 : w37.cell? ⟨gb123,2,none⟩ = some (.int .i64 0):=(blk_cell BK123.out 2).trans rfl;have hfz39_0:=blk_frozen BK123.out 0;have hfz39_1:=blk_frozen BK123.out 1;have hfz39_2:=blk_frozen BK123.out 2)|((with_reducible refine gate_callee (f:=21) rfl ?_);refine goesL_ (some 41) rfl rfl Tryd.func21 (by kernel_rfl) rfl #[.agg #[.string t116,.string t119,.int .i64 t122]] rfl (by (try simp only [List.map_toArray,List.map_cons,List.map_nil]);first|done|rfl|(simp only [List.length_drop,List.length_take];rfl)) ?_;(with_reducible refine (origin_Check.calls k t116 t119 t122 true _ A33.out).mono ?_);rintro e w40 ⟨rfl,hb⟩;refine ⟨_,rfl,?_⟩;have n0_:=Aside0.mk (blk_below (g:=gb114) (o:=.cells #[.string (⟨#[]⟩ : ByteArray),.string (⟨#[]⟩ : ByteArray),.int .i64 0] 23 (0,0)) (by (with_reducible repeat (first|refine blk_drewN ?_ _|refine blk_drew ?_|refine blk_alloc ?_ _));refine blk_far ?_ NB114_123.out _;(with_reducible repeat (first|refine blk_drewN ?_ _|refine blk_drew ?_|refine blk_alloc ?_ _));refine blk_far ?_ NB114_123.out _;(with_reducible repeat (first|refine blk_drewN ?_ _|refine blk_drew ?_|refine blk_alloc ?_ _));refine blk_far ?_ NB114_123.out _;(with_reducible repeat (first|refine blk_drewN ?_ _|refine blk_drew ?_|refine blk_alloc ?_ _));exact BK114.out) hb);have n1_:=Aside0.mk (blk_below (g:=gb123) (o:=.cells #[.string t116,.string t119,.int .i64 t122] 23 (0,0)) (by (with_reducible repeat (first|refine blk_drewN ?_ _|refine blk_drew ?_|refine blk_alloc ?_ _));refine blk_put (cs:=#[.string t116,.string t119,.int .i64 0]) ?_ 2 _ rfl;(with_reducible repeat (first|refine blk_drewN ?_ _|refine blk_drew ?_|refine blk_alloc ?_ _));refine blk_put (cs:=#[.string t116,.string (⟨#[]⟩ : ByteArray),.int .i64 0]) ?_ 1 _ rfl;(with_reducible repeat (first|refine blk_drewN ?_ _|refine blk_drew ?_|refine blk_alloc ?_ _));refine blk_put (cs:=#[.string (⟨#[]⟩ : ByteArray),.string (⟨#[]⟩ : ByteArray),.int .i64 0]) ?_ 0 _ rfl;(with_reducible repeat (first|refine blk_drewN ?_ _|refine blk_drew ?_|refine blk_alloc ?_ _));exact BK123.out) hb);have n2_:=Aside0.mk (below_step (by repeat (first|(with_reducible first|exact HB.out|apply below_alloc|apply pw_below_drewN|apply below_drew1|refine below_set ?_ GE114.out|refine below_set ?_ GE123.out)|exact HB.out)) hb);clear BK114;clear BK123;clear HB;have BK114:=n0_;have BK123:=n1_;have HB:=n2_;clear n0_ n1_ n2_;(try clear hb);(try clear hb2);(try clear hk);(try clear hi);have hcz41_0 : w40.cell? ⟨gb123,0,none⟩ = some (.string t116):=(blk_cell BK123.out 0).trans rfl;have hcz41_1 : w40.cell? ⟨gb123,1,none⟩ = some (.string t119):=(blk_cell BK123.out 1).trans rfl;have hcz41_2 : w40.cell? ⟨gb123,2,none⟩ = some (.int .i64 t122):=(blk_cell BK123.out 2).trans rfl;have hfz41_0:=blk_frozen BK123.out 0;have hfz41_1:=blk_frozen BK123.out 1;have hfz41_2:=blk_frozen BK123.out 2;have hcz42_0 : w40.cell? ⟨gb114,0,none⟩ = some (.string (⟨#[]⟩ : ByteArray)):=(blk_cell BK114.out 0).trans rfl;have hcz42_1 : w40.cell? ⟨gb114,1,none⟩ = some (.string (⟨#[]⟩ : ByteArray)):=(blk_cell BK114.out 1).trans rfl;have hcz42_2 : w40.cell? ⟨gb114,2,none⟩ = some (.int .i64 0):=(blk_cell BK114.out 2).trans rfl;have hfz42_0:=blk_frozen BK114.out 0;have hfz42_1:=blk_frozen BK114.out 1;have hfz42_2:=blk_frozen BK114.out 2))
     refine bodyPost_ret (results_ct rfl _ _ gb114 23 #[.string t116,.string t119,.int .i64 t122] (0,0) _ rfl (by (with_reducible repeat (first|refine blk_drewN ?_ _|refine blk_drew ?_|refine blk_alloc ?_ _));refine blk_put (cs:=#[.string t116,.string t119,.int .i64 0]) ?_ 2 _ rfl;(with_reducible repeat (first|refine blk_drewN ?_ _|refine blk_drew ?_|refine blk_alloc ?_ _));refine blk_put (cs:=#[.string t116,.string (⟨#[]⟩ : ByteArray),.int .i64 0]) ?_ 1 _ rfl;(with_reducible repeat (first|refine blk_drewN ?_ _|refine blk_drew ?_|refine blk_alloc ?_ _));refine blk_put (cs:=#[.string (⟨#[]⟩ : ByteArray),.string (⟨#[]⟩ : ByteArray),.int .i64 0]) ?_ 0 _ rfl;(with_reducible repeat (first|refine blk_drewN ?_ _|refine blk_drew ?_|refine blk_alloc ?_ _));exact BK114.out) Tryd.underlying23 rfl (by kernel_rfl)) rfl ?_
     exact ⟨by first|rfl|(simp [errW_none,errW_some] <;> rfl)|(simp [*,errW_none,errW_some] <;> rfl),by repeat (first|(with_reducible first|exact HB.out|apply below_alloc|apply pw_below_drewN|apply below_drew1|refine below_set ?_ GE114.out|refine below_set ?_ GE123.out)|exact HB.out)⟩
    ·replace c34:=Bool.eq_false_iff.mpr c34
     subst c34
     have H1 : (some ((⟨#[]⟩ : ByteArray),(⟨#[]⟩ : ByteArray),0,3)) = some (r1,r2,r3,r4):=by rw [if_neg (show ¬ (false = true) by decide)] at H;exact H
     clear H
     have H:=H1
     clear H1
     simp only [Option.some.injEq,Prod.mk.injEq] at H
     obtain ⟨rfl,rfl,rfl,rfl⟩:=H
     go_enter Tryd.func19,Tryd.ntmps19
     go_wp2_with (first|((with_reducible refine gate_dst (N:=2) rfl ?_);refine box_event ?hg (N:=2) ?hd (cs:=#[.string (⟨#[]⟩ : ByteArray),.string (⟨#[]⟩ : ByteArray),.int .i64 0]) (t:=23) ?hr ?_;(case hd => rfl);(case hg => rfl);(case hr => first|(go_simp;done)|(go_simp;rfl));intro gb114 hg w43 hbox hb;have n0_:=Aside0.mk (below_step (by repeat (first|(with_reducible first|exact HB.out|apply below_alloc|apply pw_below_drewN|apply below_drew1)|exact HB.out)) hb);have n1_:=Aside0.mk (hbox);have n2_:=Aside0.mk ((by rw [hg];exact (below_size (by repeat (first|(with_reducible first|exact HB.out|apply below_alloc|apply pw_below_drewN|apply below_drew1)|exact HB.out))) : w.heap.size ≤ gb114));have n3_:=Aside0.mk ((by rw [hg];exact (below_size (by repeat (first|(with_reducible first|exact HB.out|apply below_alloc|apply pw_below_drewN|apply below_drew1)|exact HB.out))) : w.heap.size ≤ gb114));clear HB;have HB:=n0_;have BK114:=n1_;have GW114:=n2_;have GE114:=n3_;clear n0_ n1_ n2_ n3_;clear hb hbox hg)|((with_reducible refine gate_callee (f:=45) rfl ?_);refine goesL_ (some 17) rfl rfl Tryd.func45 (by kernel_rfl) rfl #[.string a0] rfl (by (try simp only [List.map_toArray,List.map_cons,List.map_nil]);first|done|rfl|(simp only [List.length_drop,List.length_take];rfl)) ?_;(with_reducible refine (octet_Lower.calls a0 t115 _ A5.out).mono ?_);rintro e w44 ⟨rfl,hb⟩;refine ⟨_,rfl,?_⟩;have n0_:=Aside0.mk (blk_below (g:=gb114) (o:=.cells #[.string (⟨#[]⟩ : ByteArray),.string (⟨#[]⟩ : ByteArray),.int .i64 0] 23 (0,0)) (by (with_reducible repeat (first|refine blk_drewN ?_ _|refine blk_drew ?_|refine blk_alloc ?_ _));exact BK114.out) hb);have n1_:=Aside0.mk (below_step (by repeat (first|(with_reducible first|exact HB.out|apply below_alloc|apply pw_below_drewN|apply below_drew1|refine below_set ?_ GE114.out)|exact HB.out)) hb);clear BK114;clear HB;have BK114:=n0_;have HB:=n1_;clear n0_ n1_;(try clear hb);(try clear hb2);(try clear hk);(try clear hi))|((with_reducible refine gate_callee (f:=44) rfl ?_);refine goesL_ (some 18) rfl rfl Tryd.func44 (by kernel_rfl) rfl #[.string t115,.string (⟨#[58,47,47]⟩ : ByteArray)] rfl (by (try simp only [List.map_toArray,List.map_cons,List.map_nil]);first|done|rfl|(simp only [List.length_drop,List.length_take];rfl)) ?_;(with_reducible refine (strings_Cut.calls t115 (⟨#[58,47,47]⟩ : ByteArray) t116 t117 true _ ?side1 A6.out).mono ?_);(case side1 => exact ⟨by repeat (first|(with_reducible exact hM_.out)|(with_reducible exact LaidW.below hM_.out HB.out)|(with_reducible refine LaidW.alloc ?_ _)|(with_reducible refine LaidW.drewN ?_ _)|(with_reducible refine LaidW.drew ?_)|exact LaidW.below hM_.out (by repeat (first|(with_reducible first|exact HB.out|apply below_alloc|apply pw_below_drewN|apply below_drew1|refine below_set ?_ GE114.out)|exact HB.out)))⟩);rintro e w' ⟨rfl,⟨nd,rfl⟩⟩;refine ⟨_,rfl,?_⟩;(try (rw [drewN_self w44];generalize hq_ : World.drewN w44 _ = w44;have n0_ : Aside0 (w44.heap[gb114]? = some (.cells #[.string (⟨#[]⟩ : ByteArray),.string (⟨#[]⟩ : ByteArray),.int .i64 0] 23 (0,0))):=⟨by rw [← hq_];exact (by (with_reducible repeat (first|refine blk_drewN ?_ _|refine blk_drew ?_|refine blk_alloc ?_ _));exact BK114.out)⟩;have n1_ : Aside0 (Below w.heap.size w w44):=⟨by rw [← hq_];exact (by repeat (first|(with_reducible first|exact HB.out|apply below_alloc|apply pw_below_drewN|apply below_drew1|refine below_set ?_ GE114.out)|exact HB.out))⟩;clear BK114 HB hq_;have BK114:=n0_;have HB:=n1_;clear n0_ n1_)))|((with_reducible refine gate_callee (f:=44) rfl ?_);refine goesL_ (some 27) rfl rfl Tryd.func44 (by kernel_rfl) rfl #[.string t117,.string (⟨#[58]⟩ : ByteArray)] rfl (by (try simp only [List.map_toArray,List.map_cons,List.map_nil]);first|done|rfl|(simp only [List.length_drop,List.length_take];rfl)) ?_;(with_reducible refine (strings_Cut.calls t117 (⟨#[58]⟩ : ByteArray) t119 t120 false _ ?side1 A8.out).mono ?_);(case side1 => exact ⟨by repeat (first|(with_reducible exact hM_.out)|(with_reducible exact LaidW.below hM_.out HB.out)|(with_reducible refine LaidW.alloc ?_ _)|(with_reducible refine LaidW.drewN ?_ _)|(with_reducible refine LaidW.drew ?_)|exact LaidW.below hM_.out (by repeat (first|(with_reducible first|exact HB.out|apply below_alloc|apply pw_below_drewN|apply below_drew1|refine below_set ?_ GE114.out)|exact HB.out)))⟩);rintro e w' ⟨rfl,⟨nd,rfl⟩⟩;refine ⟨_,rfl,?_⟩;(try (rw [drewN_self w44];generalize hq_ : World.drewN w44 _ = w44;have n0_ : Aside0 (w44.heap[gb114]? = some (.cells #[.string (⟨#[]⟩ : ByteArray),.string (⟨#[]⟩ : ByteArray),.int .i64 0] 23 (0,0))):=⟨by rw [← hq_];exact (by (with_reducible repeat (first|refine blk_drewN ?_ _|refine blk_drew ?_|refine blk_alloc ?_ _));exact BK114.out)⟩;have n1_ : Aside0 (Below w.heap.size w w44):=⟨by rw [← hq_];exact (by repeat (first|(with_reducible first|exact HB.out|apply below_alloc|apply pw_below_drewN|apply below_drew1|refine below_set ?_ GE114.out)|exact HB.out))⟩;clear BK114 HB hq_;have BK114:=n0_;have HB:=n1_;clear n0_ n1_)))|((with_reducible refine gate_callee (f:=27) rfl ?_);refine goesL_ (some 34) rfl rfl Tryd.func27 (by kernel_rfl) rfl #[.string t116] rfl (by (try simp only [List.map_toArray,List.map_cons,List.map_nil]);first|done|rfl|(simp only [List.length_drop,List.length_take];rfl)) ?_;(with_reducible refine (origin_Default.calls t116 t122 _ A9.out).mono ?_);rintro e w' ⟨rfl,⟨nd,rfl⟩⟩;refine ⟨_,rfl,?_⟩;(try (rw [drewN_self w44];generalize hq_ : World.drewN w44 _ = w44;have n0_ : Aside0 (w44.heap[gb114]? = some (.cells #[.string (⟨#[]⟩ : ByteArray),.string (⟨#[]⟩ : ByteArray),.int .i64 0] 23 (0,0))):=⟨by rw [← hq_];exact (by (with_reducible repeat (first|refine blk_drewN ?_ _|refine blk_drew ?_|refine blk_alloc ?_ _));exact BK114.out)⟩;have n1_ : Aside0 (Below w.heap.size w w44):=⟨by rw [← hq_];exact (by repeat (first|(with_reducible first|exact HB.out|apply below_alloc|apply pw_below_drewN|apply below_drew1|refine below_set ?_ GE114.out)|exact HB.out))⟩;clear BK114 HB hq_;have BK114:=n0_;have HB:=n1_;clear n0_ n1_)))|((with_reducible refine gate_dst (N:=10) rfl ?_);refine box_event ?hg (N:=10) ?hd (cs:=#[.string (⟨#[]⟩ : ByteArray),.string (⟨#[]⟩ : ByteArray),.int .i64 0]) (t:=23) ?hr ?_;(case hd => rfl);(case hg => rfl);(case hr => first|(go_simp;done)|(go_simp;rfl));intro gb123 hg w45 hbox hb;have n0_:=Aside0.mk (blk_below (g:=gb114) (o:=.cells #[.string (⟨#[]⟩ : ByteArray),.string (⟨#[]⟩ : ByteArray),.int .i64 0] 23 (0,0)) (by (with_reducible repeat (first|refine blk_drewN ?_ _|refine blk_drew ?_|refine blk_alloc ?_ _));exact BK114.out) hb);have n1_:=Aside0.mk (below_step (by repeat (first|(with_reducible first|exact HB.out|apply below_alloc|apply pw_below_drewN|apply below_drew1|refine below_set ?_ GE114.out)|exact HB.out)) hb);have n2_:=Aside0.mk (hbox);have n3_:=Aside0.mk ((by rw [hg];exact (below_size (by repeat (first|(with_reducible first|exact HB.out|apply below_alloc|apply pw_below_drewN|apply below_drew1|refine below_set ?_ GE114.out)|exact HB.out))) : w.heap.size ≤ gb123));have n4_:=Aside0.mk ((by rw [hg];exact (below_size (by repeat (first|(with_reducible first|exact HB.out|apply below_alloc|apply pw_below_drewN|apply below_drew1|refine below_set ?_ GE114.out)|exact HB.out))) : w.heap.size ≤ gb123));have n5_:=Aside0.mk ((by rw [hg];exact Nat.ne_of_lt (blk_lt (g:=gb114) (o:=.cells #[.string (⟨#[]⟩ : ByteArray),.string (⟨#[]⟩ : ByteArray),.int .i64 0] 23 (0,0)) (by (with_reducible repeat (first|refine blk_drewN ?_ _|refine blk_drew ?_|refine blk_alloc ?_ _));exact BK114.out)) : gb114 ≠ gb123));have n6_:=Aside0.mk ((by rw [hg];exact Nat.ne_of_gt (blk_lt (g:=gb114) (o:=.cells #[.string (⟨#[]⟩ : ByteArray),.string (⟨#[]⟩ : ByteArray),.int .i64 0] 23 (0,0)) (by (with_reducible repeat (first|refine blk_drewN ?_ _|refine blk_drew ?_|refine blk_alloc ?_ _));exact BK114.out)) : gb123 ≠ gb114));clear BK114;clear HB;have BK114:=n0_;have HB:=n1_;have BK123:=n2_;have GW123:=n3_;have GE123:=n4_;have NB114_123:=n5_;have NB123_114:=n6_;clear n0_ n1_ n2_ n3_ n4_ n5_ n6_;clear hb hbox hg;have hnb46:=NB123_114.out;have hnc46:=NB114_123.out;have hcz47_0 : w45.cell? ⟨gb123,0,none⟩ = some (.string (⟨#[]⟩ : ByteArray)):=(blk_cell BK123.out 0).trans rfl;have hcz47_1 : w45.cell? ⟨gb123,1,none⟩ = some (.string (⟨#[]⟩ : ByteArray)):=(blk_cell BK123.out 1).trans rfl;have hcz47_2 : w45.cell? ⟨gb123,2,none⟩ = some (.int .i64 0):=(blk_cell BK123.out 2).trans rfl;have hfz47_0:=blk_frozen BK123.out 0;have hfz47_1:=blk_frozen BK123.out 1;have hfz47_2:=blk_frozen BK123.out 2)|((with_reducible refine gate_callee (f:=21) rfl ?_);refine goesL_ (some 41) rfl rfl Tryd.func21 (by kernel_rfl) rfl #[.agg #[.string t116,.string t119,.int .i64 t122]] rfl (by (try simp only [List.map_toArray,List.map_cons,List.map_nil]);first|done|rfl|(simp only [List.length_drop,List.length_take];rfl)) ?_;(with_reducible refine (origin_Check.calls k t116 t119 t122 false _ A33.out).mono ?_);rintro e w48 ⟨rfl,hb⟩;refine ⟨_,rfl,?_⟩;have n0_:=Aside0.mk (blk_below (g:=gb114) (o:=.cells #[.string (⟨#[]⟩ : ByteArray),.string (⟨#[]⟩ : ByteArray),.int .i64 0] 23 (0,0)) (by (with_reducible repeat (first|refine blk_drewN ?_ _|refine blk_drew ?_|refine blk_alloc ?_ _));refine blk_far ?_ NB114_123.out _;(with_reducible repeat (first|refine blk_drewN ?_ _|refine blk_drew ?_|refine blk_alloc ?_ _));refine blk_far ?_ NB114_123.out _;(with_reducible repeat (first|refine blk_drewN ?_ _|refine blk_drew ?_|refine blk_alloc ?_ _));refine blk_far ?_ NB114_123.out _;(with_reducible repeat (first|refine blk_drewN ?_ _|refine blk_drew ?_|refine blk_alloc ?_ _));exact BK114.out) hb);have n1_:=Aside0.mk (blk_below (g:=gb123) (o:=.cells #[.string t116,.string t119,.int .i64 t122] 23 (0,0)) (by (with_reducible repeat (first|refine blk_drewN ?_ _|refine blk_drew ?_|refine blk_alloc ?_ _));refine blk_put (cs:=#[.string t116,.string t119,.int .i64 0]) ?_ 2 _ rfl;(with_reducible repeat (first|refine blk_drewN ?_ _|refine blk_drew ?_|refine blk_alloc ?_ _));refine blk_put (cs:=#[.string t116,.string (⟨#[]⟩ : ByteArray),.int .i64 0]) ?_ 1 _ rfl;(with_reducible repeat (first|refine blk_drewN ?_ _|refine blk_drew ?_|refine blk_alloc ?_ _));refine blk_put (cs:=#[.string (⟨#[]⟩ : ByteArray),.string (⟨#[]⟩ : ByteArray),.int .i64 0]) ?_ 0 _ rfl;(with_reducible repeat (first|refine blk_drewN ?_ _|refine blk_drew ?_|refine blk_alloc ?_ _));exact BK123.out) hb);have n2_:=Aside0.mk (below_step (by repeat (first|(with_reducible first|exact HB.out|apply below_alloc|apply pw_below_drewN|apply below_drew1|refine below_set ?_ GE114.out|refine below_set ?_ GE123.out)|exact HB.out)) hb);clear BK114;clear BK123;clear HB;have BK114:=n0_;have BK123:=n1_;have HB:=n2_;clear n0_ n1_ n2_;(try clear hb);(try clear hb2);(try clear hk);(try clear hi);have hcz49_0 : w48.cell? ⟨gb114,0,none⟩ = some (.string (⟨#[]⟩ : ByteArray)):=(blk_cell BK114.out 0).trans rfl;have hcz49_1 : w48.cell? ⟨gb114,1,none⟩ = some (.string (⟨#[]⟩ : ByteArray)):=(blk_cell BK114.out 1).trans rfl;have hcz49_2 : w48.cell? ⟨gb114,2,none⟩ = some (.int .i64 0):=(blk_cell BK114.out 2).trans rfl;have hfz49_0:=blk_frozen BK114.out 0;have hfz49_1:=blk_frozen BK114.out 1;have hfz49_2:=blk_frozen BK114.out 2))
     refine bodyPost_ret (results_ct rfl _ _ gb114 23 #[.string (⟨#[]⟩ : ByteArray),.string (⟨#[]⟩ : ByteArray),.int .i64 0] (0,0) _ rfl (by (with_reducible repeat (first|refine blk_drewN ?_ _|refine blk_drew ?_|refine blk_alloc ?_ _));refine blk_put (cs:=#[.string (⟨#[]⟩ : ByteArray),.string (⟨#[]⟩ : ByteArray),.int .i64 0]) ?_ 2 _ rfl;(with_reducible repeat (first|refine blk_drewN ?_ _|refine blk_drew ?_|refine blk_alloc ?_ _));refine blk_put (cs:=#[.string (⟨#[]⟩ : ByteArray),.string (⟨#[]⟩ : ByteArray),.int .i64 0]) ?_ 1 _ rfl;(with_reducible repeat (first|refine blk_drewN ?_ _|refine blk_drew ?_|refine blk_alloc ?_ _));refine blk_put (cs:=#[.string (⟨#[]⟩ : ByteArray),.string (⟨#[]⟩ : ByteArray),.int .i64 0]) ?_ 0 _ rfl;(with_reducible repeat (first|refine blk_drewN ?_ _|refine blk_drew ?_|refine blk_alloc ?_ _));exact BK114.out) Tryd.underlying23 rfl (by kernel_rfl)) rfl ?_
     exact ⟨by first|rfl|(simp [errW_none,errW_some] <;> rfl)|(simp [*,errW_none,errW_some] <;> rfl),by repeat (first|(with_reducible first|exact HB.out|apply below_alloc|apply pw_below_drewN|apply below_drew1|refine below_set ?_ GE114.out|refine below_set ?_ GE123.out)|exact HB.out)⟩
  ·replace c7:=Bool.eq_false_iff.mpr c7
   subst c7
   have H1 : (some ((⟨#[]⟩ : ByteArray),(⟨#[]⟩ : ByteArray),0,3)) = some (r1,r2,r3,r4):=by rw [if_neg (show ¬ (false = true) by decide)] at H;exact H
   clear H
   have H:=H1
   clear H1
   simp only [Option.some.injEq,Prod.mk.injEq] at H
   obtain ⟨rfl,rfl,rfl,rfl⟩:=H
   go_enter Tryd.func19,Tryd.ntmps19
   go_wp2_with (first|((with_reducible refine gate_dst (N:=2) rfl ?_);refine box_event ?hg (N:=2) ?hd (cs:=#[.string (⟨#[]⟩ : ByteArray),.string (⟨#[]⟩ : ByteArray),.int .i64 0]) (t:=23) ?hr ?_;(case hd => rfl);(case hg => rfl);(case hr => first|(go_simp;done)|(go_simp;rfl));intro gb114 hg w50 hbox hb;have n0_:=Aside0.mk (below_step (by repeat (first|(with_reducible first|exact HB.out|apply below_alloc|apply pw_below_drewN|apply below_drew1)|exact HB.out)) hb);have n1_:=Aside0.mk (hbox);have n2_:=Aside0.mk ((by rw [hg];exact (below_size (by repeat (first|(with_reducible first|exact HB.out|apply below_alloc|apply pw_below_drewN|apply below_drew1)|exact HB.out))) : w.heap.size ≤ gb114));have n3_:=Aside0.mk ((by rw [hg];exact (below_size (by repeat (first|(with_reducible first|exact HB.out|apply below_alloc|apply pw_below_drewN|apply below_drew1)|exact HB.out))) : w.heap.size ≤ gb114));clear HB;have HB:=n0_;have BK114:=n1_;have GW114:=n2_;have GE114:=n3_;clear n0_ n1_ n2_ n3_;clear hb hbox hg)|((with_reducible refine gate_callee (f:=45) rfl ?_);refine goesL_ (some 17) rfl rfl Tryd.func45 (by kernel_rfl) rfl #[.string a0] rfl (by (try simp only [List.map_toArray,List.map_cons,List.map_nil]);first|done|rfl|(simp only [List.length_drop,List.length_take];rfl)) ?_;(with_reducible refine (octet_Lower.calls a0 t115 _ A5.out).mono ?_);rintro e w51 ⟨rfl,hb⟩;refine ⟨_,rfl,?_⟩;have n0_:=Aside0.mk (blk_below (g:=gb114) (o:=.cells #[.string (⟨#[]⟩ : ByteArray),.string (⟨#[]⟩ : ByteArray),.int .i64 0] 23 (0,0)) (by (with_reducible repeat (first|refine blk_drewN ?_ _|refine blk_drew ?_|refine blk_alloc ?_ _));exact BK114.out) hb);have n1_:=Aside0.mk (below_step (by repeat (first|(with_reducible first|exact HB.out|apply below_alloc|apply pw_below_drewN|apply below_drew1|refine below_set ?_ GE114.out)|exact HB.out)) hb);clear BK114;clear HB;have BK114:=n0_;have HB:=n1_;clear n0_ n1_;(try clear hb);(try clear hb2);(try clear hk);(try clear hi))|((with_reducible refine gate_callee (f:=44) rfl ?_);refine goesL_ (some 18) rfl rfl Tryd.func44 (by kernel_rfl) rfl #[.string t115,.string (⟨#[58,47,47]⟩ : ByteArray)] rfl (by (try simp only [List.map_toArray,List.map_cons,List.map_nil]);first|done|rfl|(simp only [List.length_drop,List.length_take];rfl)) ?_;(with_reducible refine (strings_Cut.calls t115 (⟨#[58,47,47]⟩ : ByteArray) t116 t117 false _ ?side1 A6.out).mono ?_);(case side1 => exact ⟨by repeat (first|(with_reducible exact hM_.out)|(with_reducible exact LaidW.below hM_.out HB.out)|(with_reducible refine LaidW.alloc ?_ _)|(with_reducible refine LaidW.drewN ?_ _)|(with_reducible refine LaidW.drew ?_)|exact LaidW.below hM_.out (by repeat (first|(with_reducible first|exact HB.out|apply below_alloc|apply pw_below_drewN|apply below_drew1|refine below_set ?_ GE114.out)|exact HB.out)))⟩);rintro e w' ⟨rfl,⟨nd,rfl⟩⟩;refine ⟨_,rfl,?_⟩;(try (rw [drewN_self w51];generalize hq_ : World.drewN w51 _ = w51;have n0_ : Aside0 (w51.heap[gb114]? = some (.cells #[.string (⟨#[]⟩ : ByteArray),.string (⟨#[]⟩ : ByteArray),.int .i64 0] 23 (0,0))):=⟨by rw [← hq_];exact (by (with_reducible repeat (first|refine blk_drewN ?_ _|refine blk_drew ?_|refine blk_alloc ?_ _));exact BK114.out)⟩;have n1_ : Aside0 (Below w.heap.size w w51):=⟨by rw [← hq_];exact (by repeat (first|(with_reducible first|exact HB.out|apply below_alloc|apply pw_below_drewN|apply below_drew1|refine below_set ?_ GE114.out)|exact HB.out))⟩;clear BK114 HB hq_;have BK114:=n0_;have HB:=n1_;clear n0_ n1_));have hcz52_0 : w51.cell? ⟨gb114,0,none⟩ = some (.string (⟨#[]⟩ : ByteArray)):=(blk_cell BK114.out 0).trans rfl;have hcz52_1 : w51.cell? ⟨gb114,1,none⟩ = some (.string (⟨#[]⟩ : ByteArray)):=(blk_cell BK114.out 1).trans rfl;have hcz52_2 : w51.cell? ⟨gb114,2,none⟩ = some (.int .i64 0):=(blk_cell BK114.out 2).trans rfl;have hfz52_0:=blk_frozen BK114.out 0;have hfz52_1:=blk_frozen BK114.out 1;have hfz52_2:=blk_frozen BK114.out 2))
   refine bodyPost_ret (results_ct rfl _ _ gb114 23 #[.string (⟨#[]⟩ : ByteArray),.string (⟨#[]⟩ : ByteArray),.int .i64 0] (0,0) _ rfl (by (with_reducible repeat (first|refine blk_drewN ?_ _|refine blk_drew ?_|refine blk_alloc ?_ _));refine blk_put (cs:=#[.string (⟨#[]⟩ : ByteArray),.string (⟨#[]⟩ : ByteArray),.int .i64 0]) ?_ 2 _ rfl;(with_reducible repeat (first|refine blk_drewN ?_ _|refine blk_drew ?_|refine blk_alloc ?_ _));refine blk_put (cs:=#[.string (⟨#[]⟩ : ByteArray),.string (⟨#[]⟩ : ByteArray),.int .i64 0]) ?_ 1 _ rfl;(with_reducible repeat (first|refine blk_drewN ?_ _|refine blk_drew ?_|refine blk_alloc ?_ _));refine blk_put (cs:=#[.string (⟨#[]⟩ : ByteArray),.string (⟨#[]⟩ : ByteArray),.int .i64 0]) ?_ 0 _ rfl;(with_reducible repeat (first|refine blk_drewN ?_ _|refine blk_drew ?_|refine blk_alloc ?_ _));exact BK114.out) Tryd.underlying23 rfl (by kernel_rfl)) rfl ?_
   exact ⟨by first|rfl|(simp [errW_none,errW_some] <;> rfl)|(simp [*,errW_none,errW_some] <;> rfl),by repeat (first|(with_reducible first|exact HB.out|apply below_alloc|apply pw_below_drewN|apply below_drew1|refine below_set ?_ GE114.out)|exact HB.out)⟩

/-! ### stringslite_HasPrefix: function 81 -/
def stringslite_HasPrefix.f (a0 : ByteArray) (a1 : ByteArray) : Option (Bool):=if (a0.size : Int) ≥ (a1.size : Int) then (if 0 ≤ (a1.size : Int) then (if (a1.size : Int) ≤ (a0.size : Int) then (some ((a0.extract 0 ((a1.size : Int) : Int).toNat).toList == a1.toList)) else (none)) else (none)) else (some false)
set_option maxHeartbeats 8000000 in
set_option maxRecDepth 100000 in
theorem stringslite_HasPrefix.calls (a0 : ByteArray) (a1 : ByteArray) (r : Bool) (w : World) (h : stringslite_HasPrefix.f a0 a1 = some r) :
  Calls Tryd.prog 81 #[.string a0,.string a1] w fun e w' => e = .returned (.bool r) ∧ Drawn0 w w':=by
 have H : (if (a0.size : Int) ≥ (a1.size : Int) then (if 0 ≤ (a1.size : Int) then (if (a1.size : Int) ≤ (a0.size : Int) then (some ((a0.extract 0 ((a1.size : Int) : Int).toNat).toList == a1.toList)) else (none)) else (none)) else (some false)) = some r:=h
 clear h
 by_cases c3 : (a0.size : Int) ≥ (a1.size : Int)
 ·rw [if_pos c3] at H
  have c3b0 : decide ((a1.size : Int) ≤ (a0.size : Int)) = true:=decide_eq_true c3
  have c3b1 : decide (a1.size ≤ a0.size) = true:=decide_eq_true (Int.ofNat_le.mp c3)
  clear c3
  by_cases c4 : 0 ≤ (a1.size : Int)
  ·rw [if_pos c4] at H
   have c4b0:=eq_true c4
   have c4b1 : decide (0 ≤ (a1.size : Int)) = true:=decide_eq_true c4
   clear c4
   by_cases c5 : (a1.size : Int) ≤ (a0.size : Int)
   ·rw [if_pos c5] at H
    have c5b0:=eq_true c5
    have c5b1 : decide ((a1.size : Int) ≤ (a0.size : Int)) = true:=decide_eq_true c5
    clear c5
    obtain rfl:=Option.some.inj H
    go_enter Tryd.func81,Tryd.ntmps81
    go_wp2
    go_ret
    exact ⟨by first|rfl|(simp;done)|(simp [*];done)|(simp [*];generalize ByteArray.toList _ = l_;cases l_ <;> rfl),by repeat (first|exact Drawn0.refl _|apply Drawn0.step)⟩
   ·rw [if_neg c5] at H
    exact absurd H (by simp)
  ·rw [if_neg c4] at H
   exact absurd H (by simp)
 ·rw [if_neg c3] at H
  have c3b0 : decide ((a1.size : Int) ≤ (a0.size : Int)) = false:=decide_eq_false c3
  have c3b1 : decide (a1.size ≤ a0.size) = false:=decide_eq_false (fun h => c3 (Int.ofNat_le.mpr h))
  clear c3
  obtain rfl:=Option.some.inj H
  go_enter Tryd.func81,Tryd.ntmps81
  go_wp2
  go_ret
  exact ⟨by first|rfl|(simp;done)|(simp [*];done)|(simp [*];generalize ByteArray.toList _ = l_;cases l_ <;> rfl),by repeat (first|exact Drawn0.refl _|apply Drawn0.step)⟩

/-! ### stringslite_TrimPrefix: function 77 -/
def stringslite_TrimPrefix.f (a0 : ByteArray) (a1 : ByteArray) : Option (ByteArray):=(stringslite_HasPrefix.f a0 a1).bind fun t127 => (if t127 = true then (if 0 ≤ (a1.size : Int) then (if (a1.size : Int) ≤ (a0.size : Int) then (some (a0.extract ((a1.size : Int) : Int).toNat a0.size)) else (none)) else (none)) else (some a0))
set_option maxHeartbeats 8000000 in
set_option maxRecDepth 100000 in
theorem stringslite_TrimPrefix.calls (a0 : ByteArray) (a1 : ByteArray) (r : ByteArray) (w : World) (h : stringslite_TrimPrefix.f a0 a1 = some r) :
  Calls Tryd.prog 77 #[.string a0,.string a1] w fun e w' => e = .returned (.string r) ∧ Drawn0 w w':=by
 have H : ((stringslite_HasPrefix.f a0 a1).bind fun t127 => (if t127 = true then (if 0 ≤ (a1.size : Int) then (if (a1.size : Int) ≤ (a0.size : Int) then (some (a0.extract ((a1.size : Int) : Int).toNat a0.size)) else (none)) else (none)) else (some a0))) = some r:=h
 clear h
 replace H:=Option.bind_eq_some_iff.mp H
 obtain ⟨t127,A30,H⟩:=H
 replace H : (if t127 = true then (if 0 ≤ (a1.size : Int) then (if (a1.size : Int) ≤ (a0.size : Int) then (some (a0.extract ((a1.size : Int) : Int).toNat a0.size)) else (none)) else (none)) else (some a0)) = some r:=H
 have A3:=Aside0.mk A30
 clear A30
 by_cases c4 : t127 = true
 ·subst c4
  have H1 : (if 0 ≤ (a1.size : Int) then (if (a1.size : Int) ≤ (a0.size : Int) then (some (a0.extract ((a1.size : Int) : Int).toNat a0.size)) else (none)) else (none)) = some r:=by rw [if_pos rfl] at H;exact H
  clear H
  have H:=H1
  clear H1
  by_cases c5 : 0 ≤ (a1.size : Int)
  ·rw [if_pos c5] at H
   have c5b0:=eq_true c5
   have c5b1 : decide (0 ≤ (a1.size : Int)) = true:=decide_eq_true c5
   clear c5
   by_cases c6 : (a1.size : Int) ≤ (a0.size : Int)
   ·rw [if_pos c6] at H
    have c6b0:=eq_true c6
    have c6b1 : decide ((a1.size : Int) ≤ (a0.size : Int)) = true:=decide_eq_true c6
    clear c6
    obtain rfl:=Option.some.inj H
    go_enter Tryd.func77,Tryd.ntmps77
    go_wp2_with (first|((with_reducible refine gate_callee (f:=81) rfl ?_);refine goesL_ (some 7) rfl rfl Tryd.func81 (by kernel_rfl) rfl #[.string a0,.string a1] rfl (by (try simp only [List.map_toArray,List.map_cons,List.map_nil]);first|done|rfl|(simp only [List.length_drop,List.length_take];rfl)) ?_;(with_reducible refine (stringslite_HasPrefix.calls a0 a1 true _ A3.out).mono ?_);rintro e w' ⟨rfl,⟨nd,rfl⟩⟩;refine ⟨_,rfl,?_⟩))
    go_ret
    exact ⟨by first|rfl|(simp;done)|(simp [*];done)|(simp [*];generalize ByteArray.toList _ = l_;cases l_ <;> rfl),by repeat (first|exact Drawn0.refl _|apply Drawn0.step)⟩
   ·rw [if_neg c6] at H
    exact absurd H (by simp)
  ·rw [if_neg c5] at H
   exact absurd H (by simp)
 ·replace c4:=Bool.eq_false_iff.mpr c4
  subst c4
  have H1 : (some a0) = some r:=by rw [if_neg (show ¬ (false = true) by decide)] at H;exact H
  clear H
  have H:=H1
  clear H1
  obtain rfl:=Option.some.inj H
  go_enter Tryd.func77,Tryd.ntmps77
  go_wp2_with (first|((with_reducible refine gate_callee (f:=81) rfl ?_);refine goesL_ (some 7) rfl rfl Tryd.func81 (by kernel_rfl) rfl #[.string a0,.string a1] rfl (by (try simp only [List.map_toArray,List.map_cons,List.map_nil]);first|done|rfl|(simp only [List.length_drop,List.length_take];rfl)) ?_;(with_reducible refine (stringslite_HasPrefix.calls a0 a1 false _ A3.out).mono ?_);rintro e w' ⟨rfl,⟨nd,rfl⟩⟩;refine ⟨_,rfl,?_⟩))
  go_ret
  exact ⟨by first|rfl|(simp;done)|(simp [*];done)|(simp [*];generalize ByteArray.toList _ = l_;cases l_ <;> rfl),by repeat (first|exact Drawn0.refl _|apply Drawn0.step)⟩

/-! ### strings_TrimPrefix: function 59 -/
def strings_TrimPrefix.f (a0 : ByteArray) (a1 : ByteArray) : Option (ByteArray):=(stringslite_TrimPrefix.f a0 a1).bind fun t128 => (some t128)
set_option maxHeartbeats 8000000 in
set_option maxRecDepth 100000 in
theorem strings_TrimPrefix.calls (a0 : ByteArray) (a1 : ByteArray) (r : ByteArray) (w : World) (h : strings_TrimPrefix.f a0 a1 = some r) :
  Calls Tryd.prog 59 #[.string a0,.string a1] w fun e w' => e = .returned (.string r) ∧ Drawn0 w w':=by
 have H : ((stringslite_TrimPrefix.f a0 a1).bind fun t128 => (some t128)) = some r:=h
 clear h
 replace H:=Option.bind_eq_some_iff.mp H
 obtain ⟨t128,A30,H⟩:=H
 replace H : (some t128) = some r:=H
 have A3:=Aside0.mk A30
 clear A30
 obtain rfl:=Option.some.inj H
 go_enter Tryd.func59,Tryd.ntmps59
 go_wp2_with (first|((with_reducible refine gate_callee (f:=77) rfl ?_);refine goesL_ (some 7) rfl rfl Tryd.func77 (by kernel_rfl) rfl #[.string a0,.string a1] rfl (by (try simp only [List.map_toArray,List.map_cons,List.map_nil]);first|done|rfl|(simp only [List.length_drop,List.length_take];rfl)) ?_;(with_reducible refine (stringslite_TrimPrefix.calls a0 a1 t128 _ A3.out).mono ?_);rintro e w' ⟨rfl,⟨nd,rfl⟩⟩;refine ⟨_,rfl,?_⟩))
 go_ret
 exact ⟨by first|rfl|(simp;done)|(simp [*];done)|(simp [*];generalize ByteArray.toList _ = l_;cases l_ <;> rfl),by repeat (first|exact Drawn0.refl _|apply Drawn0.step)⟩

end Go.Proofs.YtbfbidifodcedaaDoor.Pr
