-- Made by a program of this session (wip/xp/xp.py), over the print's words.
import Derived.Test.YtbfbidifodcedaaDoorPr0
namespace Go.Proofs.YtbfbidifodcedaaDoor.Pr
open Go.RowKit Go.Proofs.YtbfbidifodcedaaDoorW.PrintWords Go.Proofs.YtbfbidifodcedaaDoorW.PrintLast Go.Proofs.YtbfbidifodcedaaDoorW.PrintMore
attribute [local go_sem] max2_int min2_int max_two min_two max_three min_three max_four min_four   -- for this text's walks alone
set_option linter.unusedVariables false
set_option linter.unusedSimpArgs false

/-! ### lockkeeperref3_Behind: function 42 -/
def lockkeeperref3_Behind.l0 : Nat → ByteArray → Int → Option (Int)
 | 0, _, _ => none
 | k + 1, x0, x3 => if (wrap64 (x3 + 3)) ≤ (x0.size : Int) then (if 0 ≤ x3 then (if x3 ≤ (wrap64 (x3 + 3)) then (if (x0.extract (x3 : Int).toNat ((wrap64 (x3 + 3)) : Int).toNat).toList = ([58, 47, 47] : List UInt8) then (some x3) else (lockkeeperref3_Behind.l0 k x0 (wrap64 (x3 + 1)))) else (none)) else (none)) else (some (-1))
def lockkeeperref3_Behind.f (k : Nat) (a0 : ByteArray) : Option (Int) := lockkeeperref3_Behind.l0 k a0 0
theorem lockkeeperref3_Behind.mono_l : ∀ k, (∀ y0 y1, LeO (lockkeeperref3_Behind.l0 k y0 y1) (lockkeeperref3_Behind.l0 (k + 1) y0 y1))
 | 0 => fun _ _ r h => by simp [lockkeeperref3_Behind.l0] at h
 | k + 1 => by
  have ih0 := lockkeeperref3_Behind.mono_l k
  ·intro y0 y1
   unfold lockkeeperref3_Behind.l0
   repeat' first
   | (with_reducible exact ih0 _ _)
   | (with_reducible exact LeO.refl _)
   | (with_reducible exact LeO.none _)
   | (with_reducible refine LeO.ite ?_ ?_)
   | (with_reducible refine LeO.bind ?_ (fun _ => ?_))
   | exact ih0 _ _
   | exact LeO.none _
   | refine LeO.ite ?_ ?_
   | refine LeO.bind ?_ (fun _ => ?_)
theorem lockkeeperref3_Behind.mono : ∀ a0 k, LeO (lockkeeperref3_Behind.f k a0) (lockkeeperref3_Behind.f (k + 1) a0) := by
 intro a0 k
 have ih0 := lockkeeperref3_Behind.mono_l k
 unfold lockkeeperref3_Behind.f
 repeat' first
   | (with_reducible exact ih0 _ _)
   | (with_reducible exact LeO.refl _)
   | (with_reducible exact LeO.none _)
   | (with_reducible refine LeO.ite ?_ ?_)
   | (with_reducible refine LeO.bind ?_ (fun _ => ?_))
   | exact ih0 _ _
   | exact LeO.none _
   | refine LeO.ite ?_ ?_
   | refine LeO.bind ?_ (fun _ => ?_)
set_option maxHeartbeats 8000000 in
set_option maxRecDepth 100000 in
theorem lockkeeperref3_Behind.calls (k : Nat) (a0 : ByteArray) (r : Int) (w : World) (h : lockkeeperref3_Behind.f k a0 = some r) :
  Calls Tryd.prog 42 #[.string a0] w fun e w' => e = .returned (.int .i64 r) ∧ Drawn0 w w' := by
 have H : (lockkeeperref3_Behind.l0 k a0 0) = some r := h
 clear h
 have H' := Aside0.mk H
 clear H
 go_enter Tryd.func42, Tryd.ntmps42
 go_wp2
 go_loopg [3] k (fun kq v3 w' => ∃ (x3_1 : Int), v3 = .int .i64 x3_1 ∧ Aside0 (lockkeeperref3_Behind.l0 kq a0 x3_1 = some r) ∧ Aside0 (kq ≤ k) ∧ Drawn0 w w')
 case atStart => exact ⟨(0), (by first | rfl | (simp; done) | (simp [*]; done)), H', ⟨Nat.le_refl _⟩, by repeat (first | exact Drawn0.refl _ | apply Drawn0.step)⟩
 case round =>
  clear H'
  obtain ⟨x3_1, rfl, HA, HK1, ⟨m1, rfl⟩⟩ := hrel
  cases gk with
  | zero => exact absurd HA.out (by simp [lockkeeperref3_Behind.l0])
  | succ k1 =>
   have H := HA.out
   clear HA
   simp only [lockkeeperref3_Behind.l0] at H
   by_cases c2 : (wrap64 (x3_1 + 3)) ≤ (a0.size : Int)
   ·rw [if_pos c2] at H
    have c2b0 : decide ((wrap64 (x3_1 + 3)) ≤ (a0.size : Int)) = true := decide_eq_true c2
    clear c2
    by_cases c3 : 0 ≤ x3_1
    ·rw [if_pos c3] at H
     have c3b0 := eq_true c3
     have c3b1 : decide (0 ≤ x3_1) = true := decide_eq_true c3
     clear c3
     by_cases c4 : x3_1 ≤ (wrap64 (x3_1 + 3))
     ·rw [if_pos c4] at H
      have c4b0 := eq_true c4
      have c4b1 : decide (x3_1 ≤ (wrap64 (x3_1 + 3))) = true := decide_eq_true c4
      have c5b0 := eq_true (of_decide_eq_true (by first | (with_reducible assumption) | assumption) : (wrap64 (x3_1 + 3)) ≤ (a0.size : Int))
      by_cases c6 : (a0.extract (x3_1 : Int).toNat ((wrap64 (x3_1 + 3)) : Int).toNat).toList = ([58, 47, 47] : List UInt8)
      ·rw [if_pos c6] at H
       have c6b0 : ((a0.extract (x3_1 : Int).toNat ((wrap64 (x3_1 + 3)) : Int).toNat).toList == ([58, 47, 47] : List UInt8)) = true := beq_iff_eq.mpr c6
       have c6b1 : ((a0.extract (x3_1 : Int).toNat ((wrap64 (x3_1 + 3)) : Int).toNat).toList != ([58, 47, 47] : List UInt8)) = false := bne_eq_false_iff_eq.mpr c6
       clear c6
       obtain rfl := Option.some.inj H
       go_wp2
       go_ret
       exact ⟨by first | rfl | (simp; done) | (simp [*]; done), by repeat (first | exact Drawn0.refl _ | apply Drawn0.step)⟩
      ·rw [if_neg c6] at H
       have c6b0 : ((a0.extract (x3_1 : Int).toNat ((wrap64 (x3_1 + 3)) : Int).toNat).toList == ([58, 47, 47] : List UInt8)) = false := beq_eq_false_iff_ne.mpr c6
       have c6b1 : ((a0.extract (x3_1 : Int).toNat ((wrap64 (x3_1 + 3)) : Int).toNat).toList != ([58, 47, 47] : List UInt8)) = true := bne_iff_ne.mpr c6
       have H' := Aside0.mk H
       clear H
       go_wp2
       go_roundg k1
       case measure => have := HK1.out; omega
       case rel => exact ⟨(wrap64 (x3_1 + 1)), (by first | rfl | (simp; done) | (simp [*]; done)), H', ⟨by have := HK1.out; omega⟩, by repeat (first | exact Drawn0.refl _ | apply Drawn0.step)⟩
     ·rw [if_neg c4] at H
      exact absurd H (by simp)
    ·rw [if_neg c3] at H
     exact absurd H (by simp)
   ·rw [if_neg c2] at H
    have c2b0 : decide ((wrap64 (x3_1 + 3)) ≤ (a0.size : Int)) = false := decide_eq_false c2
    clear c2
    obtain rfl := Option.some.inj H
    go_wp2
    go_ret
    exact ⟨by first | rfl | (simp; done) | (simp [*]; done), by repeat (first | exact Drawn0.refl _ | apply Drawn0.step)⟩

/-! ### lockkeeperref1_In: function 43 -/
def lockkeeperref1_In.l0 : Nat → Int → ByteArray → Int → Option (Bool)
 | 0, _, _, _ => none
 | k + 1, x0, x1, x5 => if x5 < (x1.size : Int) then (if 0 ≤ x5 then (if (bt x1 x5) = x0 then (some true) else (lockkeeperref1_In.l0 k x0 x1 (wrap64 (x5 + 1)))) else (none)) else (some false)
def lockkeeperref1_In.f (k : Nat) (a0 : Int) (a1 : ByteArray) : Option (Bool) := lockkeeperref1_In.l0 k a0 a1 0
theorem lockkeeperref1_In.mono_l : ∀ k, (∀ y0 y1 y2, LeO (lockkeeperref1_In.l0 k y0 y1 y2) (lockkeeperref1_In.l0 (k + 1) y0 y1 y2))
 | 0 => fun _ _ _ r h => by simp [lockkeeperref1_In.l0] at h
 | k + 1 => by
  have ih0 := lockkeeperref1_In.mono_l k
  ·intro y0 y1 y2
   unfold lockkeeperref1_In.l0
   repeat' first
   | (with_reducible exact ih0 _ _ _)
   | (with_reducible exact LeO.refl _)
   | (with_reducible exact LeO.none _)
   | (with_reducible refine LeO.ite ?_ ?_)
   | (with_reducible refine LeO.bind ?_ (fun _ => ?_))
   | exact ih0 _ _ _
   | exact LeO.none _
   | refine LeO.ite ?_ ?_
   | refine LeO.bind ?_ (fun _ => ?_)
theorem lockkeeperref1_In.mono : ∀ a0 a1 k, LeO (lockkeeperref1_In.f k a0 a1) (lockkeeperref1_In.f (k + 1) a0 a1) := by
 intro a0 a1 k
 have ih0 := lockkeeperref1_In.mono_l k
 unfold lockkeeperref1_In.f
 repeat' first
   | (with_reducible exact ih0 _ _ _)
   | (with_reducible exact LeO.refl _)
   | (with_reducible exact LeO.none _)
   | (with_reducible refine LeO.ite ?_ ?_)
   | (with_reducible refine LeO.bind ?_ (fun _ => ?_))
   | exact ih0 _ _ _
   | exact LeO.none _
   | refine LeO.ite ?_ ?_
   | refine LeO.bind ?_ (fun _ => ?_)
set_option maxHeartbeats 8000000 in
set_option maxRecDepth 100000 in
theorem lockkeeperref1_In.calls (k : Nat) (a0 : Int) (a1 : ByteArray) (r : Bool) (w : World) (h : lockkeeperref1_In.f k a0 a1 = some r) :
  Calls Tryd.prog 43 #[.int .u8 a0, .string a1] w fun e w' => e = .returned (.bool r) ∧ Drawn0 w w' := by
 have H : (lockkeeperref1_In.l0 k a0 a1 0) = some r := h
 clear h
 have H' := Aside0.mk H
 clear H
 go_enter Tryd.func43, Tryd.ntmps43
 go_wp2
 go_loopg [5] k (fun kq v5 w' => ∃ (x5_1 : Int), v5 = .int .i64 x5_1 ∧ Aside0 (lockkeeperref1_In.l0 kq a0 a1 x5_1 = some r) ∧ Aside0 (kq ≤ k) ∧ Drawn0 w w')
 case atStart => exact ⟨(0), (by first | rfl | (simp; done) | (simp [*]; done)), H', ⟨Nat.le_refl _⟩, by repeat (first | exact Drawn0.refl _ | apply Drawn0.step)⟩
 case round =>
  clear H'
  try clear p2
  obtain ⟨x5_1, rfl, HA, HK1, ⟨m1, rfl⟩⟩ := hrel
  cases gk with
  | zero => exact absurd HA.out (by simp [lockkeeperref1_In.l0])
  | succ k1 =>
   have H := HA.out
   clear HA
   simp only [lockkeeperref1_In.l0] at H
   by_cases c3 : x5_1 < (a1.size : Int)
   ·rw [if_pos c3] at H
    have c3b0 : decide (x5_1 < (a1.size : Int)) = true := decide_eq_true c3
    clear c3
    by_cases c4 : 0 ≤ x5_1
    ·rw [if_pos c4] at H
     have c4b0 : decide (0 ≤ x5_1) = true := decide_eq_true c4
     clear c4
     by_cases c6 : (bt a1 x5_1) = a0
     ·rw [if_pos c6] at H
      have c6b0 : ((bt a1 x5_1) == a0) = true := beq_iff_eq.mpr c6
      have c6b1 : ((bt a1 x5_1) != a0) = false := bne_eq_false_iff_eq.mpr c6
      clear c6
      obtain rfl := Option.some.inj H
      have p5 : 0 ≤ (x5_1 : Int) := of_decide_eq_true (by first | (with_reducible assumption) | assumption)
      have q5 : x5_1 < (a1.size : Int) := of_decide_eq_true (by first | (with_reducible assumption) | assumption)
      have hx5 := bt_at a1 x5_1
      replace p5 := eq_true p5
      replace q5 := eq_true q5
      go_wp2
      go_ret
      exact ⟨by first | rfl | (simp; done) | (simp [*]; done), by repeat (first | exact Drawn0.refl _ | apply Drawn0.step)⟩
     ·rw [if_neg c6] at H
      have c6b0 : ((bt a1 x5_1) == a0) = false := beq_eq_false_iff_ne.mpr c6
      have c6b1 : ((bt a1 x5_1) != a0) = true := bne_iff_ne.mpr c6
      have H' := Aside0.mk H
      clear H
      have p5 : 0 ≤ (x5_1 : Int) := of_decide_eq_true (by first | (with_reducible assumption) | assumption)
      have q5 : x5_1 < (a1.size : Int) := of_decide_eq_true (by first | (with_reducible assumption) | assumption)
      have hx5 := bt_at a1 x5_1
      replace p5 := eq_true p5
      replace q5 := eq_true q5
      go_wp2
      go_roundg k1
      case measure => have := HK1.out; omega
      case rel => exact ⟨(wrap64 (x5_1 + 1)), (by first | rfl | (simp; done) | (simp [*]; done)), H', ⟨by have := HK1.out; omega⟩, by repeat (first | exact Drawn0.refl _ | apply Drawn0.step)⟩
    ·rw [if_neg c4] at H
     exact absurd H (by simp)
   ·rw [if_neg c3] at H
    have c3b0 : decide (x5_1 < (a1.size : Int)) = false := decide_eq_false c3
    clear c3
    obtain rfl := Option.some.inj H
    go_wp2
    go_ret
    exact ⟨by first | rfl | (simp; done) | (simp [*]; done), by repeat (first | exact Drawn0.refl _ | apply Drawn0.step)⟩

end Go.Proofs.YtbfbidifodcedaaDoor.Pr
