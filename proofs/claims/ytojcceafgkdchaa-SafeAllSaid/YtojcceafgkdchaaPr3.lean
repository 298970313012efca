-- Made by a program of this session (wip/xp/xp.py), over the print's words.
import Derived.Test.YtojcceafgkdchaaPr0
import Derived.Test.YtojcceafgkdchaaPr2
import Derived.Test.YtojcceafgkdchaaG1
namespace Go.Proofs.Ytojcceafgkdchaa.Pr
open Go.RowKit Go.Proofs.YtojcceafgkdchaaW.PrintWords Go.Proofs.YtojcceafgkdchaaW.PrintLast Go.Proofs.YtojcceafgkdchaaW.PrintMore
attribute [local go_sem] max2_int min2_int max_two min_two max_three min_three max_four min_four   -- for this text's walks alone
set_option linter.unusedVariables false
set_option linter.unusedSimpArgs false

/-! ### lockkeeperref1_Plain: function 86 -/
def lockkeeperref1_Plain.f (a0 : Int) : Option (Bool) := if a0 ≥ 97 then (if a0 ≤ 122 then (some true) else (if a0 ≥ 65 then (if a0 ≤ 90 then (some true) else (if a0 ≥ 48 then (some (decide (a0 ≤ 57))) else (some false))) else (if a0 ≥ 48 then (some (decide (a0 ≤ 57))) else (some false)))) else (if a0 ≥ 65 then (if a0 ≤ 90 then (some true) else (if a0 ≥ 48 then (some (decide (a0 ≤ 57))) else (some false))) else (if a0 ≥ 48 then (some (decide (a0 ≤ 57))) else (some false)))
set_option maxHeartbeats 8000000 in
set_option maxRecDepth 100000 in
theorem lockkeeperref1_Plain.calls (a0 : Int) (r : Bool) (w : World) (h : lockkeeperref1_Plain.f a0 = some r) :
  Calls Try.prog 86 #[.int .u8 a0] w fun e w' => e = .returned (.bool r) ∧ Drawn0 w w' := by
 have H : (if a0 ≥ 97 then (if a0 ≤ 122 then (some true) else (if a0 ≥ 65 then (if a0 ≤ 90 then (some true) else (if a0 ≥ 48 then (some (decide (a0 ≤ 57))) else (some false))) else (if a0 ≥ 48 then (some (decide (a0 ≤ 57))) else (some false)))) else (if a0 ≥ 65 then (if a0 ≤ 90 then (some true) else (if a0 ≥ 48 then (some (decide (a0 ≤ 57))) else (some false))) else (if a0 ≥ 48 then (some (decide (a0 ≤ 57))) else (some false)))) = some r := h
 clear h
 by_cases c2 : a0 ≥ 97
 ·rw [if_pos c2] at H
  have c2b0 : decide (97 ≤ a0) = true := decide_eq_true c2
  clear c2
  by_cases c3 : a0 ≤ 122
  ·rw [if_pos c3] at H
   have c3b0 : decide (a0 ≤ 122) = true := decide_eq_true c3
   clear c3
   obtain rfl := Option.some.inj H
   go_enter Try.func86, Try.ntmps86
   go_wp2
   go_ret
   exact ⟨by first | rfl | (simp; done) | (simp [*]; done), by repeat (first | exact Drawn0.refl _ | apply Drawn0.step)⟩
  ·rw [if_neg c3] at H
   have c3b0 : decide (a0 ≤ 122) = false := decide_eq_false c3
   clear c3
   by_cases c4 : a0 ≥ 65
   ·rw [if_pos c4] at H
    have c4b0 : decide (65 ≤ a0) = true := decide_eq_true c4
    clear c4
    by_cases c5 : a0 ≤ 90
    ·rw [if_pos c5] at H
     have c5b0 : decide (a0 ≤ 90) = true := decide_eq_true c5
     clear c5
     obtain rfl := Option.some.inj H
     go_enter Try.func86, Try.ntmps86
     go_wp2
     go_ret
     exact ⟨by first | rfl | (simp; done) | (simp [*]; done), by repeat (first | exact Drawn0.refl _ | apply Drawn0.step)⟩
    ·rw [if_neg c5] at H
     have c5b0 : decide (a0 ≤ 90) = false := decide_eq_false c5
     clear c5
     by_cases c6 : a0 ≥ 48
     ·rw [if_pos c6] at H
      have c6b0 : decide (48 ≤ a0) = true := decide_eq_true c6
      clear c6
      obtain rfl := Option.some.inj H
      go_enter Try.func86, Try.ntmps86
      go_wp2
      go_ret
      exact ⟨by first | rfl | (simp; done) | (simp [*]; done), by repeat (first | exact Drawn0.refl _ | apply Drawn0.step)⟩
     ·rw [if_neg c6] at H
      have c6b0 : decide (48 ≤ a0) = false := decide_eq_false c6
      clear c6
      obtain rfl := Option.some.inj H
      go_enter Try.func86, Try.ntmps86
      go_wp2
      go_ret
      exact ⟨by first | rfl | (simp; done) | (simp [*]; done), by repeat (first | exact Drawn0.refl _ | apply Drawn0.step)⟩
   ·rw [if_neg c4] at H
    have c4b0 : decide (65 ≤ a0) = false := decide_eq_false c4
    clear c4
    by_cases c7 : a0 ≥ 48
    ·rw [if_pos c7] at H
     have c7b0 : decide (48 ≤ a0) = true := decide_eq_true c7
     clear c7
     obtain rfl := Option.some.inj H
     go_enter Try.func86, Try.ntmps86
     go_wp2
     go_ret
     exact ⟨by first | rfl | (simp; done) | (simp [*]; done), by repeat (first | exact Drawn0.refl _ | apply Drawn0.step)⟩
    ·rw [if_neg c7] at H
     have c7b0 : decide (48 ≤ a0) = false := decide_eq_false c7
     clear c7
     obtain rfl := Option.some.inj H
     go_enter Try.func86, Try.ntmps86
     go_wp2
     go_ret
     exact ⟨by first | rfl | (simp; done) | (simp [*]; done), by repeat (first | exact Drawn0.refl _ | apply Drawn0.step)⟩
 ·rw [if_neg c2] at H
  have c2b0 : decide (97 ≤ a0) = false := decide_eq_false c2
  clear c2
  by_cases c8 : a0 ≥ 65
  ·rw [if_pos c8] at H
   have c8b0 : decide (65 ≤ a0) = true := decide_eq_true c8
   clear c8
   by_cases c9 : a0 ≤ 90
   ·rw [if_pos c9] at H
    have c9b0 : decide (a0 ≤ 90) = true := decide_eq_true c9
    clear c9
    obtain rfl := Option.some.inj H
    go_enter Try.func86, Try.ntmps86
    go_wp2
    go_ret
    exact ⟨by first | rfl | (simp; done) | (simp [*]; done), by repeat (first | exact Drawn0.refl _ | apply Drawn0.step)⟩
   ·rw [if_neg c9] at H
    have c9b0 : decide (a0 ≤ 90) = false := decide_eq_false c9
    clear c9
    by_cases c10 : a0 ≥ 48
    ·rw [if_pos c10] at H
     have c10b0 : decide (48 ≤ a0) = true := decide_eq_true c10
     clear c10
     obtain rfl := Option.some.inj H
     go_enter Try.func86, Try.ntmps86
     go_wp2
     go_ret
     exact ⟨by first | rfl | (simp; done) | (simp [*]; done), by repeat (first | exact Drawn0.refl _ | apply Drawn0.step)⟩
    ·rw [if_neg c10] at H
     have c10b0 : decide (48 ≤ a0) = false := decide_eq_false c10
     clear c10
     obtain rfl := Option.some.inj H
     go_enter Try.func86, Try.ntmps86
     go_wp2
     go_ret
     exact ⟨by first | rfl | (simp; done) | (simp [*]; done), by repeat (first | exact Drawn0.refl _ | apply Drawn0.step)⟩
  ·rw [if_neg c8] at H
   have c8b0 : decide (65 ≤ a0) = false := decide_eq_false c8
   clear c8
   by_cases c11 : a0 ≥ 48
   ·rw [if_pos c11] at H
    have c11b0 : decide (48 ≤ a0) = true := decide_eq_true c11
    clear c11
    obtain rfl := Option.some.inj H
    go_enter Try.func86, Try.ntmps86
    go_wp2
    go_ret
    exact ⟨by first | rfl | (simp; done) | (simp [*]; done), by repeat (first | exact Drawn0.refl _ | apply Drawn0.step)⟩
   ·rw [if_neg c11] at H
    have c11b0 : decide (48 ≤ a0) = false := decide_eq_false c11
    clear c11
    obtain rfl := Option.some.inj H
    go_enter Try.func86, Try.ntmps86
    go_wp2
    go_ret
    exact ⟨by first | rfl | (simp; done) | (simp [*]; done), by repeat (first | exact Drawn0.refl _ | apply Drawn0.step)⟩

/-! ### lockkeeperref1_Token: function 68 -/
def lockkeeperref1_Token.l0 : Nat → ByteArray → Int → Option (Bool)
 | 0, _, _ => none
 | k + 1, x0, x3 => if x3 < (x0.size : Int) then (if 0 ≤ x3 then ((lockkeeperref1_Plain.f (bt x0 x3)).bind fun t156 => (if t156 = true then (lockkeeperref1_Token.l0 k x0 (wrap64 (x3 + 1))) else ((lockkeeperref1_In.f k (bt x0 x3) (⟨#[33, 35, 36, 37, 38, 39, 42, 43, 45, 46, 94, 95, 124, 126]⟩ : ByteArray)).bind fun t157 => (if t157 = true then (lockkeeperref1_Token.l0 k x0 (wrap64 (x3 + 1))) else (if (bt x0 x3) = 96 then (lockkeeperref1_Token.l0 k x0 (wrap64 (x3 + 1))) else (some false)))))) else (none)) else (some (decide ((x0.size : Int) > 0)))
def lockkeeperref1_Token.f (k : Nat) (a0 : ByteArray) : Option (Bool) := lockkeeperref1_Token.l0 k a0 0
theorem lockkeeperref1_Token.mono_l : ∀ k, (∀ y0 y1, LeO (lockkeeperref1_Token.l0 k y0 y1) (lockkeeperref1_Token.l0 (k + 1) y0 y1))
 | 0 => fun _ _ r h => by simp [lockkeeperref1_Token.l0] at h
 | k + 1 => by
  have ih0 := lockkeeperref1_Token.mono_l k
  ·intro y0 y1
   unfold lockkeeperref1_Token.l0
   repeat' first
   | (with_reducible exact ih0 _ _)
   | (with_reducible exact lockkeeperref1_In.mono _ _ _)
   | (with_reducible exact LeO.refl _)
   | (with_reducible exact LeO.none _)
   | (with_reducible refine LeO.ite ?_ ?_)
   | (with_reducible refine LeO.bind ?_ (fun _ => ?_))
   | exact ih0 _ _
   | exact lockkeeperref1_In.mono _ _ _
   | exact LeO.none _
   | refine LeO.ite ?_ ?_
   | refine LeO.bind ?_ (fun _ => ?_)
theorem lockkeeperref1_Token.mono : ∀ a0 k, LeO (lockkeeperref1_Token.f k a0) (lockkeeperref1_Token.f (k + 1) a0) := by
 intro a0 k
 have ih0 := lockkeeperref1_Token.mono_l k
 unfold lockkeeperref1_Token.f
 repeat' first
   | (with_reducible exact ih0 _ _)
   | (with_reducible exact lockkeeperref1_In.mono _ _ _)
   | (with_reducible exact LeO.refl _)
   | (with_reducible exact LeO.none _)
   | (with_reducible refine LeO.ite ?_ ?_)
   | (with_reducible refine LeO.bind ?_ (fun _ => ?_))
   | exact ih0 _ _
   | exact lockkeeperref1_In.mono _ _ _
   | exact LeO.none _
   | refine LeO.ite ?_ ?_
   | refine LeO.bind ?_ (fun _ => ?_)
set_option maxHeartbeats 8000000 in
set_option maxRecDepth 100000 in
theorem lockkeeperref1_Token.calls (k : Nat) (a0 : ByteArray) (r : Bool) (w : World) (h : lockkeeperref1_Token.f k a0 = some r) :
  Calls Try.prog 68 #[.string a0] w fun e w' => e = .returned (.bool r) ∧ Drawn0 w w' := by
 have H : (lockkeeperref1_Token.l0 k a0 0) = some r := h
 clear h
 have H' := Aside0.mk H
 clear H
 go_enter Try.func68, Try.ntmps68
 go_wp2
 go_loopg [3] k (fun kq v3 w' => ∃ (x3_1 : Int), v3 = .int .i64 x3_1 ∧ Aside0 (lockkeeperref1_Token.l0 kq a0 x3_1 = some r) ∧ Aside0 (kq ≤ k) ∧ Drawn0 w w')
 case atStart => exact ⟨(0), (by first | rfl | (simp; done) | (simp [*]; done)), H', ⟨Nat.le_refl _⟩, by repeat (first | exact Drawn0.refl _ | apply Drawn0.step)⟩
 case round =>
  clear H'
  obtain ⟨x3_1, rfl, HA, HK1, ⟨m1, rfl⟩⟩ := hrel
  cases gk with
  | zero => exact absurd HA.out (by simp [lockkeeperref1_Token.l0])
  | succ k1 =>
   have H := HA.out
   clear HA
   simp only [lockkeeperref1_Token.l0] at H
   by_cases c2 : x3_1 < (a0.size : Int)
   ·rw [if_pos c2] at H
    have c2b0 : decide (x3_1 < (a0.size : Int)) = true := decide_eq_true c2
    clear c2
    by_cases c3 : 0 ≤ x3_1
    ·rw [if_pos c3] at H
     have c3b0 : decide (0 ≤ x3_1) = true := decide_eq_true c3
     clear c3
     replace H := Option.bind_eq_some_iff.mp H
     obtain ⟨t156, A50, H⟩ := H
     replace H : (if t156 = true then (lockkeeperref1_Token.l0 k1 a0 (wrap64 (x3_1 + 1))) else ((lockkeeperref1_In.f k1 (bt a0 x3_1) (⟨#[33, 35, 36, 37, 38, 39, 42, 43, 45, 46, 94, 95, 124, 126]⟩ : ByteArray)).bind fun t157 => (if t157 = true then (lockkeeperref1_Token.l0 k1 a0 (wrap64 (x3_1 + 1))) else (if (bt a0 x3_1) = 96 then (lockkeeperref1_Token.l0 k1 a0 (wrap64 (x3_1 + 1))) else (some false))))) = some r := H
     have A5 := Aside0.mk A50
     clear A50
     by_cases c6 : t156 = true
     ·subst c6
      have H1 : (lockkeeperref1_Token.l0 k1 a0 (wrap64 (x3_1 + 1))) = some r := by rw [if_pos rfl] at H; exact H
      clear H
      have H := H1
      clear H1
      have H' := Aside0.mk H
      clear H
      have p4 : 0 ≤ (x3_1 : Int) := of_decide_eq_true (by first | (with_reducible assumption) | assumption)
      have q4 : x3_1 < (a0.size : Int) := of_decide_eq_true (by first | (with_reducible assumption) | assumption)
      have hx4 := bt_at a0 x3_1
      replace p4 := eq_true p4
      replace q4 := eq_true q4
      go_wp2_with (first | ((with_reducible refine gate_callee (f := 86) rfl ?_); refine goesL_ (some 13) rfl rfl Try.func86 (by kernel_rfl) rfl #[.int .u8 (bt a0 x3_1)] rfl (by (try simp only [List.map_toArray, List.map_cons, List.map_nil]); first | done | rfl | (simp only [List.length_drop, List.length_take]; rfl)) ?_; (with_reducible refine (lockkeeperref1_Plain.calls (bt a0 x3_1) true _ A5.out).mono ?_); rintro e w' ⟨rfl, ⟨nd, rfl⟩⟩; refine ⟨_, rfl, ?_⟩))
      go_roundg k1
      case measure => have := HK1.out; omega
      case rel => exact ⟨(wrap64 (x3_1 + 1)), (by first | rfl | (simp; done) | (simp [*]; done)), H', ⟨by have := HK1.out; omega⟩, by repeat (first | exact Drawn0.refl _ | apply Drawn0.step)⟩
     ·replace c6 := Bool.eq_false_iff.mpr c6
      subst c6
      have H1 : ((lockkeeperref1_In.f k1 (bt a0 x3_1) (⟨#[33, 35, 36, 37, 38, 39, 42, 43, 45, 46, 94, 95, 124, 126]⟩ : ByteArray)).bind fun t157 => (if t157 = true then (lockkeeperref1_Token.l0 k1 a0 (wrap64 (x3_1 + 1))) else (if (bt a0 x3_1) = 96 then (lockkeeperref1_Token.l0 k1 a0 (wrap64 (x3_1 + 1))) else (some false)))) = some r := by rw [if_neg (show ¬ (false = true) by decide)] at H; exact H
      clear H
      have H := H1
      clear H1
      replace H := Option.bind_eq_some_iff.mp H
      obtain ⟨t157, A80, H⟩ := H
      replace H : (if t157 = true then (lockkeeperref1_Token.l0 k1 a0 (wrap64 (x3_1 + 1))) else (if (bt a0 x3_1) = 96 then (lockkeeperref1_Token.l0 k1 a0 (wrap64 (x3_1 + 1))) else (some false))) = some r := H
      have A8 := Aside0.mk A80
      clear A80
      by_cases c9 : t157 = true
      ·subst c9
       have H1 : (lockkeeperref1_Token.l0 k1 a0 (wrap64 (x3_1 + 1))) = some r := by rw [if_pos rfl] at H; exact H
       clear H
       have H := H1
       clear H1
       have H' := Aside0.mk H
       clear H
       have p4 : 0 ≤ (x3_1 : Int) := of_decide_eq_true (by first | (with_reducible assumption) | assumption)
       have q4 : x3_1 < (a0.size : Int) := of_decide_eq_true (by first | (with_reducible assumption) | assumption)
       have hx4 := bt_at a0 x3_1
       replace p4 := eq_true p4
       replace q4 := eq_true q4
       go_wp2_with (first | ((with_reducible refine gate_callee (f := 86) rfl ?_); refine goesL_ (some 13) rfl rfl Try.func86 (by kernel_rfl) rfl #[.int .u8 (bt a0 x3_1)] rfl (by (try simp only [List.map_toArray, List.map_cons, List.map_nil]); first | done | rfl | (simp only [List.length_drop, List.length_take]; rfl)) ?_; (with_reducible refine (lockkeeperref1_Plain.calls (bt a0 x3_1) false _ A5.out).mono ?_); rintro e w' ⟨rfl, ⟨nd, rfl⟩⟩; refine ⟨_, rfl, ?_⟩; have p7 : 0 ≤ (x3_1 : Int) := of_decide_eq_true (by first | (with_reducible assumption) | assumption); have q7 : x3_1 < (a0.size : Int) := of_decide_eq_true (by first | (with_reducible assumption) | assumption); have hx7 := bt_at a0 x3_1; replace p7 := eq_true p7; replace q7 := eq_true q7) | (go_at_call 70; (with_reducible refine (lockkeeperref1_In.calls k1 (bt a0 x3_1) (⟨#[33, 35, 36, 37, 38, 39, 42, 43, 45, 46, 94, 95, 124, 126]⟩ : ByteArray) true _ A8.out).mono ?_); rintro e w' ⟨rfl, ⟨nd, rfl⟩⟩))
       go_roundg k1
       case measure => have := HK1.out; omega
       case rel => exact ⟨(wrap64 (x3_1 + 1)), (by first | rfl | (simp; done) | (simp [*]; done)), H', ⟨by have := HK1.out; omega⟩, by repeat (first | exact Drawn0.refl _ | apply Drawn0.step)⟩
      ·replace c9 := Bool.eq_false_iff.mpr c9
       subst c9
       have H1 : (if (bt a0 x3_1) = 96 then (lockkeeperref1_Token.l0 k1 a0 (wrap64 (x3_1 + 1))) else (some false)) = some r := by rw [if_neg (show ¬ (false = true) by decide)] at H; exact H
       clear H
       have H := H1
       clear H1
       by_cases c11 : (bt a0 x3_1) = 96
       ·rw [if_pos c11] at H
        have c11b0 : ((bt a0 x3_1) == 96) = true := beq_iff_eq.mpr c11
        have c11b1 : ((bt a0 x3_1) != 96) = false := bne_eq_false_iff_eq.mpr c11
        clear c11
        have H' := Aside0.mk H
        clear H
        have p4 : 0 ≤ (x3_1 : Int) := of_decide_eq_true (by first | (with_reducible assumption) | assumption)
        have q4 : x3_1 < (a0.size : Int) := of_decide_eq_true (by first | (with_reducible assumption) | assumption)
        have hx4 := bt_at a0 x3_1
        replace p4 := eq_true p4
        replace q4 := eq_true q4
        go_wp2_with (first | ((with_reducible refine gate_callee (f := 86) rfl ?_); refine goesL_ (some 13) rfl rfl Try.func86 (by kernel_rfl) rfl #[.int .u8 (bt a0 x3_1)] rfl (by (try simp only [List.map_toArray, List.map_cons, List.map_nil]); first | done | rfl | (simp only [List.length_drop, List.length_take]; rfl)) ?_; (with_reducible refine (lockkeeperref1_Plain.calls (bt a0 x3_1) false _ A5.out).mono ?_); rintro e w' ⟨rfl, ⟨nd, rfl⟩⟩; refine ⟨_, rfl, ?_⟩; have p7 : 0 ≤ (x3_1 : Int) := of_decide_eq_true (by first | (with_reducible assumption) | assumption); have q7 : x3_1 < (a0.size : Int) := of_decide_eq_true (by first | (with_reducible assumption) | assumption); have hx7 := bt_at a0 x3_1; replace p7 := eq_true p7; replace q7 := eq_true q7) | (go_at_call 70; (with_reducible refine (lockkeeperref1_In.calls k1 (bt a0 x3_1) (⟨#[33, 35, 36, 37, 38, 39, 42, 43, 45, 46, 94, 95, 124, 126]⟩ : ByteArray) false _ A8.out).mono ?_); rintro e w' ⟨rfl, ⟨nd, rfl⟩⟩; have p10 : 0 ≤ (x3_1 : Int) := of_decide_eq_true (by first | (with_reducible assumption) | assumption); have q10 : x3_1 < (a0.size : Int) := of_decide_eq_true (by first | (with_reducible assumption) | assumption); have hx10 := bt_at a0 x3_1; replace p10 := eq_true p10; replace q10 := eq_true q10))
        go_roundg k1
        case measure => have := HK1.out; omega
        case rel => exact ⟨(wrap64 (x3_1 + 1)), (by first | rfl | (simp; done) | (simp [*]; done)), H', ⟨by have := HK1.out; omega⟩, by repeat (first | exact Drawn0.refl _ | apply Drawn0.step)⟩
       ·rw [if_neg c11] at H
        have c11b0 : ((bt a0 x3_1) == 96) = false := beq_eq_false_iff_ne.mpr c11
        have c11b1 : ((bt a0 x3_1) != 96) = true := bne_iff_ne.mpr c11
        obtain rfl := Option.some.inj H
        have p4 : 0 ≤ (x3_1 : Int) := of_decide_eq_true (by first | (with_reducible assumption) | assumption)
        have q4 : x3_1 < (a0.size : Int) := of_decide_eq_true (by first | (with_reducible assumption) | assumption)
        have hx4 := bt_at a0 x3_1
        replace p4 := eq_true p4
        replace q4 := eq_true q4
        go_wp2_with (first | ((with_reducible refine gate_callee (f := 86) rfl ?_); refine goesL_ (some 13) rfl rfl Try.func86 (by kernel_rfl) rfl #[.int .u8 (bt a0 x3_1)] rfl (by (try simp only [List.map_toArray, List.map_cons, List.map_nil]); first | done | rfl | (simp only [List.length_drop, List.length_take]; rfl)) ?_; (with_reducible refine (lockkeeperref1_Plain.calls (bt a0 x3_1) false _ A5.out).mono ?_); rintro e w' ⟨rfl, ⟨nd, rfl⟩⟩; refine ⟨_, rfl, ?_⟩; have p7 : 0 ≤ (x3_1 : Int) := of_decide_eq_true (by first | (with_reducible assumption) | assumption); have q7 : x3_1 < (a0.size : Int) := of_decide_eq_true (by first | (with_reducible assumption) | assumption); have hx7 := bt_at a0 x3_1; replace p7 := eq_true p7; replace q7 := eq_true q7) | (go_at_call 70; (with_reducible refine (lockkeeperref1_In.calls k1 (bt a0 x3_1) (⟨#[33, 35, 36, 37, 38, 39, 42, 43, 45, 46, 94, 95, 124, 126]⟩ : ByteArray) false _ A8.out).mono ?_); rintro e w' ⟨rfl, ⟨nd, rfl⟩⟩; have p10 : 0 ≤ (x3_1 : Int) := of_decide_eq_true (by first | (with_reducible assumption) | assumption); have q10 : x3_1 < (a0.size : Int) := of_decide_eq_true (by first | (with_reducible assumption) | assumption); have hx10 := bt_at a0 x3_1; replace p10 := eq_true p10; replace q10 := eq_true q10))
        go_ret
        exact ⟨by first | rfl | (simp; done) | (simp [*]; done), by repeat (first | exact Drawn0.refl _ | apply Drawn0.step)⟩
    ·rw [if_neg c3] at H
     exact absurd H (by simp)
   ·rw [if_neg c2] at H
    have c2b0 : decide (x3_1 < (a0.size : Int)) = false := decide_eq_false c2
    clear c2
    obtain rfl := Option.some.inj H
    go_wp2
    go_ret
    exact ⟨by first | rfl | (simp; done) | (simp [*]; done), by repeat (first | exact Drawn0.refl _ | apply Drawn0.step)⟩

/-! ### lockkeeperref7_Essence: function 39 -/
mutual
def lockkeeperref7_Essence.j1 : Nat → ByteArray → Int → Option (ByteArray × Bool)
 | 0, _, _ => none
 | k + 1, x0, x4 => if 0 ≤ x4 then (if x4 ≤ (x0.size : Int) then ((lockkeeperref1_Trim.f k (x0.extract 0 (x4 : Int).toNat)).bind fun t158 => (lockkeeperref7_Essence.l1 k t158 0)) else (none)) else (none)
def lockkeeperref7_Essence.j3 : Nat → ByteArray → Int → Option (ByteArray × Bool)
 | 0, _, _ => none
 | k + 1, x5, x6 => if x6 = (x5.size : Int) then (some ((⟨#[]⟩ : ByteArray), false)) else (if 0 ≤ x6 then (if x6 ≤ (x5.size : Int) then ((lockkeeperref1_Token.f k (x5.extract 0 (x6 : Int).toNat)).bind fun t159 => (if t159 = true then (if 0 ≤ (wrap64 (x6 + 1)) then (if (wrap64 (x6 + 1)) ≤ (x5.size : Int) then ((lockkeeperref1_Token.f k (x5.extract ((wrap64 (x6 + 1)) : Int).toNat x5.size)).bind fun t160 => (if t160 = true then ((lockkeeperref1_Lower.f x5).bind fun t161 => (some (t161, true))) else (some ((⟨#[]⟩ : ByteArray), false)))) else (none)) else (none)) else (some ((⟨#[]⟩ : ByteArray), false)))) else (none)) else (none))
def lockkeeperref7_Essence.l1 : Nat → ByteArray → Int → Option (ByteArray × Bool)
 | 0, _, _ => none
 | k + 1, x5, x6 => if x6 < (x5.size : Int) then (if 0 ≤ x6 then (if (bt x5 x6) = 47 then (lockkeeperref7_Essence.j3 k x5 x6) else (lockkeeperref7_Essence.l1 k x5 (wrap64 (x6 + 1)))) else (none)) else (lockkeeperref7_Essence.j3 k x5 x6)
def lockkeeperref7_Essence.l0 : Nat → ByteArray → Int → Option (ByteArray × Bool)
 | 0, _, _ => none
 | k + 1, x0, x4 => if x4 < (x0.size : Int) then (if 0 ≤ x4 then (if (bt x0 x4) = 59 then (lockkeeperref7_Essence.j1 k x0 x4) else (lockkeeperref7_Essence.l0 k x0 (wrap64 (x4 + 1)))) else (none)) else (lockkeeperref7_Essence.j1 k x0 x4)
end
def lockkeeperref7_Essence.f (k : Nat) (a0 : ByteArray) : Option (ByteArray × Bool) := lockkeeperref7_Essence.l0 k a0 0
theorem lockkeeperref7_Essence.mono_l : ∀ k, (∀ y0 y1, LeO (lockkeeperref7_Essence.j1 k y0 y1) (lockkeeperref7_Essence.j1 (k + 1) y0 y1)) ∧ (∀ y0 y1, LeO (lockkeeperref7_Essence.j3 k y0 y1) (lockkeeperref7_Essence.j3 (k + 1) y0 y1)) ∧ (∀ y0 y1, LeO (lockkeeperref7_Essence.l1 k y0 y1) (lockkeeperref7_Essence.l1 (k + 1) y0 y1)) ∧ (∀ y0 y1, LeO (lockkeeperref7_Essence.l0 k y0 y1) (lockkeeperref7_Essence.l0 (k + 1) y0 y1))
 | 0 => ⟨fun _ _ r h => by simp [lockkeeperref7_Essence.j1] at h, fun _ _ r h => by simp [lockkeeperref7_Essence.j3] at h, fun _ _ r h => by simp [lockkeeperref7_Essence.l1] at h, fun _ _ r h => by simp [lockkeeperref7_Essence.l0] at h⟩
 | k + 1 => by
  obtain ⟨ih0, ih1, ih2, ih3⟩ := lockkeeperref7_Essence.mono_l k
  refine ⟨?_, ?_, ?_, ?_⟩
  ·intro y0 y1
   unfold lockkeeperref7_Essence.j1
   repeat' first
   | (with_reducible exact ih0 _ _)
   | (with_reducible exact ih1 _ _)
   | (with_reducible exact ih2 _ _)
   | (with_reducible exact ih3 _ _)
   | (with_reducible exact lockkeeperref1_Token.mono _ _)
   | (with_reducible exact lockkeeperref1_Trim.mono _ _)
   | (with_reducible exact LeO.refl _)
   | (with_reducible exact LeO.none _)
   | (with_reducible refine LeO.ite ?_ ?_)
   | (with_reducible refine LeO.bind ?_ (fun _ => ?_))
   | exact ih0 _ _
   | exact ih1 _ _
   | exact ih2 _ _
   | exact ih3 _ _
   | exact lockkeeperref1_Token.mono _ _
   | exact lockkeeperref1_Trim.mono _ _
   | exact LeO.none _
   | refine LeO.ite ?_ ?_
   | refine LeO.bind ?_ (fun _ => ?_)
  ·intro y0 y1
   unfold lockkeeperref7_Essence.j3
   repeat' first
   | (with_reducible exact ih0 _ _)
   | (with_reducible exact ih1 _ _)
   | (with_reducible exact ih2 _ _)
   | (with_reducible exact ih3 _ _)
   | (with_reducible exact lockkeeperref1_Token.mono _ _)
   | (with_reducible exact lockkeeperref1_Trim.mono _ _)
   | (with_reducible exact LeO.refl _)
   | (with_reducible exact LeO.none _)
   | (with_reducible refine LeO.ite ?_ ?_)
   | (with_reducible refine LeO.bind ?_ (fun _ => ?_))
   | exact ih0 _ _
   | exact ih1 _ _
   | exact ih2 _ _
   | exact ih3 _ _
   | exact lockkeeperref1_Token.mono _ _
   | exact lockkeeperref1_Trim.mono _ _
   | exact LeO.none _
   | refine LeO.ite ?_ ?_
   | refine LeO.bind ?_ (fun _ => ?_)
  ·intro y0 y1
   unfold lockkeeperref7_Essence.l1
   repeat' first
   | (with_reducible exact ih0 _ _)
   | (with_reducible exact ih1 _ _)
   | (with_reducible exact ih2 _ _)
   | (with_reducible exact ih3 _ _)
   | (with_reducible exact lockkeeperref1_Token.mono _ _)
   | (with_reducible exact lockkeeperref1_Trim.mono _ _)
   | (with_reducible exact LeO.refl _)
   | (with_reducible exact LeO.none _)
   | (with_reducible refine LeO.ite ?_ ?_)
   | (with_reducible refine LeO.bind ?_ (fun _ => ?_))
   | exact ih0 _ _
   | exact ih1 _ _
   | exact ih2 _ _
   | exact ih3 _ _
   | exact lockkeeperref1_Token.mono _ _
   | exact lockkeeperref1_Trim.mono _ _
   | exact LeO.none _
   | refine LeO.ite ?_ ?_
   | refine LeO.bind ?_ (fun _ => ?_)
  ·intro y0 y1
   unfold lockkeeperref7_Essence.l0
   repeat' first
   | (with_reducible exact ih0 _ _)
   | (with_reducible exact ih1 _ _)
   | (with_reducible exact ih2 _ _)
   | (with_reducible exact ih3 _ _)
   | (with_reducible exact lockkeeperref1_Token.mono _ _)
   | (with_reducible exact lockkeeperref1_Trim.mono _ _)
   | (with_reducible exact LeO.refl _)
   | (with_reducible exact LeO.none _)
   | (with_reducible refine LeO.ite ?_ ?_)
   | (with_reducible refine LeO.bind ?_ (fun _ => ?_))
   | exact ih0 _ _
   | exact ih1 _ _
   | exact ih2 _ _
   | exact ih3 _ _
   | exact lockkeeperref1_Token.mono _ _
   | exact lockkeeperref1_Trim.mono _ _
   | exact LeO.none _
   | refine LeO.ite ?_ ?_
   | refine LeO.bind ?_ (fun _ => ?_)
theorem lockkeeperref7_Essence.mono : ∀ a0 k, LeO (lockkeeperref7_Essence.f k a0) (lockkeeperref7_Essence.f (k + 1) a0) := by
 intro a0 k
 obtain ⟨ih0, ih1, ih2, ih3⟩ := lockkeeperref7_Essence.mono_l k
 unfold lockkeeperref7_Essence.f
 repeat' first
   | (with_reducible exact ih0 _ _)
   | (with_reducible exact ih1 _ _)
   | (with_reducible exact ih2 _ _)
   | (with_reducible exact ih3 _ _)
   | (with_reducible exact lockkeeperref1_Token.mono _ _)
   | (with_reducible exact lockkeeperref1_Trim.mono _ _)
   | (with_reducible exact LeO.refl _)
   | (with_reducible exact LeO.none _)
   | (with_reducible refine LeO.ite ?_ ?_)
   | (with_reducible refine LeO.bind ?_ (fun _ => ?_))
   | exact ih0 _ _
   | exact ih1 _ _
   | exact ih2 _ _
   | exact ih3 _ _
   | exact lockkeeperref1_Token.mono _ _
   | exact lockkeeperref1_Trim.mono _ _
   | exact LeO.none _
   | refine LeO.ite ?_ ?_
   | refine LeO.bind ?_ (fun _ => ?_)
set_option maxHeartbeats 8000000 in
set_option maxRecDepth 100000 in
theorem lockkeeperref7_Essence.calls (k : Nat) (a0 : ByteArray) (r1 : ByteArray) (r2 : Bool) (w : World) (h : lockkeeperref7_Essence.f k a0 = some (r1, r2)) :
  Calls Try.prog 39 #[.string a0] w fun e w' => e = .returned (.tuple #[.string r1, .bool r2]) ∧ Below w.heap.size w w' := by
 have HB := Aside0.mk (Below.refl w.heap.size w)
 have H : (lockkeeperref7_Essence.l0 k a0 0) = some (r1, r2) := h
 clear h
 have HC2 := Aside0.mk H
 clear H
 go_enter Try.func39, Try.ntmps39
 go_upto_block 0 with (fail)
 go_cut [4] (fun v4 wc => ∃ (kq : Nat) (x4_1 : Int), v4 = .int .i64 x4_1 ∧ Aside0 (lockkeeperref7_Essence.j1 kq a0 x4_1 = some (r1, r2)) ∧ Aside0 (kq ≤ k) ∧ Aside0 (Below w.heap.size w wc))
 case first =>
  have H := HC2.out
  clear HC2
  have H' := Aside0.mk H
  clear H
  go_wp2
  go_loopg [4] k (fun kq v4 w' => ∃ (x4_1 : Int), v4 = .int .i64 x4_1 ∧ Aside0 (lockkeeperref7_Essence.l0 kq a0 x4_1 = some (r1, r2)) ∧ Aside0 (kq ≤ k) ∧ Aside0 (Below w.heap.size w w'))
  case atStart => exact ⟨(0), (by first | rfl | (simp; done) | (simp [*]; done)), H', ⟨Nat.le_refl _⟩, ⟨by repeat (first | (with_reducible first | exact HB.out | apply below_alloc | apply pw_below_drewN | apply below_drew1) | exact HB.out)⟩⟩
  case round =>
   clear H'
   try clear p2
   obtain ⟨x4_1, rfl, HA, HK1, HB⟩ := hrel
   cases gk with
   | zero => exact absurd HA.out (by simp [lockkeeperref7_Essence.l0])
   | succ k1 =>
    have H := HA.out
    clear HA
    simp only [lockkeeperref7_Essence.l0] at H
    by_cases c3 : x4_1 < (a0.size : Int)
    ·rw [if_pos c3] at H
     have c3b0 : decide (x4_1 < (a0.size : Int)) = true := decide_eq_true c3
     clear c3
     (first | rw [c3b0] | (simp only [i64_w, i32_w]; rw [c3b0]) | skip)
     by_cases c4 : 0 ≤ x4_1
     ·rw [if_pos c4] at H
      have c4b0 : decide (0 ≤ x4_1) = true := decide_eq_true c4
      clear c4
      by_cases c6 : (bt a0 x4_1) = 59
      ·rw [if_pos c6] at H
       have c6b0 : ((bt a0 x4_1) == 59) = true := beq_iff_eq.mpr c6
       have c6b1 : ((bt a0 x4_1) != 59) = false := bne_eq_false_iff_eq.mpr c6
       clear c6
       have H' := Aside0.mk H
       clear H
       have p5 : 0 ≤ (x4_1 : Int) := of_decide_eq_true (by first | (with_reducible assumption) | assumption)
       have q5 : x4_1 < (a0.size : Int) := of_decide_eq_true (by first | (with_reducible assumption) | assumption)
       have hx5 := bt_at a0 x4_1
       replace p5 := eq_true p5
       replace q5 := eq_true q5
       go_wp2
       go_meet
       case rel => exact ⟨_, (x4_1), (by first | rfl | (simp; done) | (simp [*]; done)), H', ⟨by have := HK1.out; first | omega | exact Nat.le_refl _⟩, ⟨by repeat (first | (with_reducible first | exact HB.out | apply below_alloc | apply pw_below_drewN | apply below_drew1) | exact HB.out)⟩⟩
      ·rw [if_neg c6] at H
       have c6b0 : ((bt a0 x4_1) == 59) = false := beq_eq_false_iff_ne.mpr c6
       have c6b1 : ((bt a0 x4_1) != 59) = true := bne_iff_ne.mpr c6
       have H' := Aside0.mk H
       clear H
       have p5 : 0 ≤ (x4_1 : Int) := of_decide_eq_true (by first | (with_reducible assumption) | assumption)
       have q5 : x4_1 < (a0.size : Int) := of_decide_eq_true (by first | (with_reducible assumption) | assumption)
       have hx5 := bt_at a0 x4_1
       replace p5 := eq_true p5
       replace q5 := eq_true q5
       go_wp2
       go_roundg k1
       case measure => have := HK1.out; omega
       case rel => exact ⟨(wrap64 (x4_1 + 1)), (by first | rfl | (simp; done) | (simp [*]; done)), H', ⟨by have := HK1.out; omega⟩, ⟨by repeat (first | (with_reducible first | exact HB.out | apply below_alloc | apply pw_below_drewN | apply below_drew1) | exact HB.out)⟩⟩
     ·rw [if_neg c4] at H
      exact absurd H (by simp)
    ·rw [if_neg c3] at H
     have c3b0 : decide (x4_1 < (a0.size : Int)) = false := decide_eq_false c3
     clear c3
     (first | rw [c3b0] | (simp only [i64_w, i32_w]; rw [c3b0]) | skip)
     have H' := Aside0.mk H
     clear H
     go_wp2
     go_meet
     case rel => exact ⟨_, (x4_1), (by first | rfl | (simp; done) | (simp [*]; done)), H', ⟨by have := HK1.out; first | omega | exact Nat.le_refl _⟩, ⟨by repeat (first | (with_reducible first | exact HB.out | apply below_alloc | apply pw_below_drewN | apply below_drew1) | exact HB.out)⟩⟩
 case rest =>
  clear HC2
  try clear p2
  try clear c3
  try clear c3b0
  try clear c4
  try clear c4b0
  try clear p5
  try clear q5
  try clear hx5
  try clear c6
  try clear c6b0
  try clear c6b1
  try clear p6
  try clear p2
  try clear p5
  try clear q5
  obtain ⟨kq, x4_1, rfl, HA, HJ1, HB⟩ := hcut
  cases kq with
  | zero => exact absurd HA.out (by simp [lockkeeperref7_Essence.j1])
  | succ kj1 =>
   have H := HA.out
   clear HA
   simp only [lockkeeperref7_Essence.j1] at H
   by_cases c7 : 0 ≤ x4_1
   ·rw [if_pos c7] at H
    have c7b0 := eq_true c7
    have c7b1 : decide (0 ≤ x4_1) = true := decide_eq_true c7
    clear c7
    by_cases c8 : x4_1 ≤ (a0.size : Int)
    ·rw [if_pos c8] at H
     have c8b0 := eq_true c8
     have c8b1 : decide (x4_1 ≤ (a0.size : Int)) = true := decide_eq_true c8
     clear c8
     replace H := Option.bind_eq_some_iff.mp H
     obtain ⟨t158, A90, H⟩ := H
     replace H : (lockkeeperref7_Essence.l1 kj1 t158 0) = some (r1, r2) := H
     have A9 := Aside0.mk A90
     clear A90
     have HC10 := Aside0.mk H
     clear H
     go_upto_block 2 with (first | ((with_reducible refine gate_callee (f := 67) rfl ?_); refine goesL_ (some 22) rfl rfl Try.func67 (by kernel_rfl) rfl #[.string (a0.extract 0 (x4_1 : Int).toNat)] rfl (by (try simp only [List.map_toArray, List.map_cons, List.map_nil]); first | done | rfl | (simp only [List.length_drop, List.length_take]; rfl)) ?_; (with_reducible refine (lockkeeperref1_Trim.calls kj1 (a0.extract 0 (x4_1 : Int).toNat) t158 _ A9.out).mono ?_); rintro e w' ⟨rfl, ⟨nd, rfl⟩⟩; refine ⟨_, rfl, ?_⟩))
     (try simp only [Act.put, List.setIfInBounds_toArray, List.set_cons_zero, List.set_cons_succ])
     go_cut [6] (fun v6 wc => ∃ (kq : Nat) (x6_9 : Int), v6 = .int .i64 x6_9 ∧ Aside0 (lockkeeperref7_Essence.j3 kq t158 x6_9 = some (r1, r2)) ∧ Aside0 (kq ≤ kj1) ∧ Aside0 (Below w.heap.size w wc))
     case first =>
      have H := HC10.out
      clear HC10
      have H' := Aside0.mk H
      clear H
      go_wp2
      go_loopg [6] kj1 (fun kq v6 w' => ∃ (x6_2 : Int), v6 = .int .i64 x6_2 ∧ Aside0 (lockkeeperref7_Essence.l1 kq t158 x6_2 = some (r1, r2)) ∧ Aside0 (kq ≤ kj1) ∧ Aside0 (Below w.heap.size w w'))
      case atStart => exact ⟨(0), (by first | rfl | (simp; done) | (simp [*]; done)), H', ⟨Nat.le_refl _⟩, ⟨by repeat (first | (with_reducible first | exact HB.out | apply below_alloc | apply pw_below_drewN | apply below_drew1) | exact HB.out)⟩⟩
      case round =>
       clear H'
       try clear p2
       try clear c3
       try clear c3b0
       try clear c4
       try clear c4b0
       try clear p5
       try clear q5
       try clear hx5
       try clear c6
       try clear c6b0
       try clear c6b1
       try clear p6
       try clear c7
       try clear c7b0
       try clear c7b1
       try clear c8
       try clear c8b0
       try clear c8b1
       try clear p2
       try clear p5
       try clear p6
       try clear q5
       obtain ⟨x6_2, rfl, HA, HK2, HB⟩ := hrel
       cases gk with
       | zero => exact absurd HA.out (by simp [lockkeeperref7_Essence.l1])
       | succ k2 =>
        have H := HA.out
        clear HA
        simp only [lockkeeperref7_Essence.l1] at H
        by_cases c11 : x6_2 < (t158.size : Int)
        ·rw [if_pos c11] at H
         have c11b0 : decide (x6_2 < (t158.size : Int)) = true := decide_eq_true c11
         clear c11
         (first | rw [c11b0] | (simp only [i64_w, i32_w]; rw [c11b0]) | skip)
         by_cases c12 : 0 ≤ x6_2
         ·rw [if_pos c12] at H
          have c12b0 : decide (0 ≤ x6_2) = true := decide_eq_true c12
          clear c12
          by_cases c14 : (bt t158 x6_2) = 47
          ·rw [if_pos c14] at H
           have c14b0 : ((bt t158 x6_2) == 47) = true := beq_iff_eq.mpr c14
           have c14b1 : ((bt t158 x6_2) != 47) = false := bne_eq_false_iff_eq.mpr c14
           clear c14
           have H' := Aside0.mk H
           clear H
           have p13 : 0 ≤ (x6_2 : Int) := of_decide_eq_true (by first | (with_reducible assumption) | assumption)
           have q13 : x6_2 < (t158.size : Int) := of_decide_eq_true (by first | (with_reducible assumption) | assumption)
           have hx13 := bt_at t158 x6_2
           replace p13 := eq_true p13
           replace q13 := eq_true q13
           go_wp2
           go_meet
           case rel => exact ⟨_, (x6_2), (by first | rfl | (simp; done) | (simp [*]; done)), H', ⟨by have := HJ1.out; have := HK2.out; first | omega | exact Nat.le_refl _⟩, ⟨by repeat (first | (with_reducible first | exact HB.out | apply below_alloc | apply pw_below_drewN | apply below_drew1) | exact HB.out)⟩⟩
          ·rw [if_neg c14] at H
           have c14b0 : ((bt t158 x6_2) == 47) = false := beq_eq_false_iff_ne.mpr c14
           have c14b1 : ((bt t158 x6_2) != 47) = true := bne_iff_ne.mpr c14
           have H' := Aside0.mk H
           clear H
           have p13 : 0 ≤ (x6_2 : Int) := of_decide_eq_true (by first | (with_reducible assumption) | assumption)
           have q13 : x6_2 < (t158.size : Int) := of_decide_eq_true (by first | (with_reducible assumption) | assumption)
           have hx13 := bt_at t158 x6_2
           replace p13 := eq_true p13
           replace q13 := eq_true q13
           go_wp2
           go_roundg k2
           case measure => have := HJ1.out; have := HK2.out; omega
           case rel => exact ⟨(wrap64 (x6_2 + 1)), (by first | rfl | (simp; done) | (simp [*]; done)), H', ⟨by have := HJ1.out; have := HK2.out; omega⟩, ⟨by repeat (first | (with_reducible first | exact HB.out | apply below_alloc | apply pw_below_drewN | apply below_drew1) | exact HB.out)⟩⟩
         ·rw [if_neg c12] at H
          exact absurd H (by simp)
        ·rw [if_neg c11] at H
         have c11b0 : decide (x6_2 < (t158.size : Int)) = false := decide_eq_false c11
         clear c11
         (first | rw [c11b0] | (simp only [i64_w, i32_w]; rw [c11b0]) | skip)
         have H' := Aside0.mk H
         clear H
         go_wp2
         go_meet
         case rel => exact ⟨_, (x6_2), (by first | rfl | (simp; done) | (simp [*]; done)), H', ⟨by have := HJ1.out; have := HK2.out; first | omega | exact Nat.le_refl _⟩, ⟨by repeat (first | (with_reducible first | exact HB.out | apply below_alloc | apply pw_below_drewN | apply below_drew1) | exact HB.out)⟩⟩
     case rest =>
      clear HC10
      try clear c1
      try clear p1
      try clear q1
      try clear hx1
      try clear p2
      try clear c3
      try clear c3b0
      try clear c4
      try clear c4b0
      try clear p5
      try clear q5
      try clear hx5
      try clear c6
      try clear c6b0
      try clear c6b1
      try clear p6
      try clear c7
      try clear c7b0
      try clear c7b1
      try clear c8
      try clear c8b0
      try clear c8b1
      try clear c11
      try clear c11b0
      try clear c12
      try clear c12b0
      try clear p13
      try clear q13
      try clear hx13
      try clear c14
      try clear c14b0
      try clear c14b1
      try clear p13
      try clear p2
      try clear p5
      try clear p6
      try clear q13
      try clear q5
      obtain ⟨kq, x6_9, rfl, HA, HJ9, HB⟩ := hcut
      cases kq with
      | zero => exact absurd HA.out (by simp [lockkeeperref7_Essence.j3])
      | succ kj9 =>
       have H := HA.out
       clear HA
       simp only [lockkeeperref7_Essence.j3] at H
       by_cases c15 : x6_9 = (t158.size : Int)
       ·rw [if_pos c15] at H
        have c15b0 : (x6_9 == (t158.size : Int)) = true := beq_iff_eq.mpr c15
        have c15b1 : (x6_9 != (t158.size : Int)) = false := bne_eq_false_iff_eq.mpr c15
        clear c15
        simp only [Option.some.injEq, Prod.mk.injEq] at H
        obtain ⟨rfl, rfl⟩ := H
        go_wp2
        go_ret2
        exact ⟨by first | rfl | (simp [errW_none, errW_some] <;> rfl) | (simp [*, errW_none, errW_some] <;> rfl), by repeat (first | (with_reducible first | exact HB.out | apply below_alloc | apply pw_below_drewN | apply below_drew1) | exact HB.out)⟩
       ·rw [if_neg c15] at H
        have c15b0 : (x6_9 == (t158.size : Int)) = false := beq_eq_false_iff_ne.mpr c15
        have c15b1 : (x6_9 != (t158.size : Int)) = true := bne_iff_ne.mpr c15
        by_cases c16 : 0 ≤ x6_9
        ·rw [if_pos c16] at H
         have c16b0 := eq_true c16
         have c16b1 : decide (0 ≤ x6_9) = true := decide_eq_true c16
         clear c16
         by_cases c17 : x6_9 ≤ (t158.size : Int)
         ·rw [if_pos c17] at H
          have c17b0 := eq_true c17
          have c17b1 : decide (x6_9 ≤ (t158.size : Int)) = true := decide_eq_true c17
          clear c17
          replace H := Option.bind_eq_some_iff.mp H
          obtain ⟨t159, A180, H⟩ := H
          replace H : (if t159 = true then (if 0 ≤ (wrap64 (x6_9 + 1)) then (if (wrap64 (x6_9 + 1)) ≤ (t158.size : Int) then ((lockkeeperref1_Token.f kj9 (t158.extract ((wrap64 (x6_9 + 1)) : Int).toNat t158.size)).bind fun t160 => (if t160 = true then ((lockkeeperref1_Lower.f t158).bind fun t161 => (some (t161, true))) else (some ((⟨#[]⟩ : ByteArray), false)))) else (none)) else (none)) else (some ((⟨#[]⟩ : ByteArray), false))) = some (r1, r2) := H
          have A18 := Aside0.mk A180
          clear A180
          by_cases c19 : t159 = true
          ·subst c19
           have H1 : (if 0 ≤ (wrap64 (x6_9 + 1)) then (if (wrap64 (x6_9 + 1)) ≤ (t158.size : Int) then ((lockkeeperref1_Token.f kj9 (t158.extract ((wrap64 (x6_9 + 1)) : Int).toNat t158.size)).bind fun t160 => (if t160 = true then ((lockkeeperref1_Lower.f t158).bind fun t161 => (some (t161, true))) else (some ((⟨#[]⟩ : ByteArray), false)))) else (none)) else (none)) = some (r1, r2) := by rw [if_pos rfl] at H; exact H
           clear H
           have H := H1
           clear H1
           obtain ⟨ji20, hji20⟩ : ∃ j_ : Int, (wrap64 (x6_9 + 1)) = j_ := ⟨_, rfl⟩
           replace H : (if 0 ≤ (ji20) then (if (ji20) ≤ (t158.size : Int) then ((lockkeeperref1_Token.f kj9 (t158.extract ((ji20) : Int).toNat t158.size)).bind fun t160 => (if t160 = true then ((lockkeeperref1_Lower.f t158).bind fun t161 => (some (t161, true))) else (some ((⟨#[]⟩ : ByteArray), false)))) else (none)) else (none)) = some (r1, r2) := by first | (rw [hji20] at H; exact H) | (simp only [hji20] at H ⊢; exact H)
           (try rw [hji20] at A18)
           have hji20w : (IntKind.i64.wrap (x6_9 + 1)) = ji20 := (i64_w _).trans hji20
           by_cases c21 : 0 ≤ (ji20)
           ·rw [if_pos c21] at H
            have c21b0 := eq_true c21
            have c21b1 : decide (0 ≤ (ji20)) = true := decide_eq_true c21
            clear c21
            by_cases c22 : (ji20) ≤ (t158.size : Int)
            ·rw [if_pos c22] at H
             have c22b0 := eq_true c22
             have c22b1 : decide ((ji20) ≤ (t158.size : Int)) = true := decide_eq_true c22
             clear c22
             replace H := Option.bind_eq_some_iff.mp H
             obtain ⟨t160, A230, H⟩ := H
             replace H : (if t160 = true then ((lockkeeperref1_Lower.f t158).bind fun t161 => (some (t161, true))) else (some ((⟨#[]⟩ : ByteArray), false))) = some (r1, r2) := H
             have A23 := Aside0.mk A230
             clear A230
             by_cases c24 : t160 = true
             ·subst c24
              have H1 : ((lockkeeperref1_Lower.f t158).bind fun t161 => (some (t161, true))) = some (r1, r2) := by rw [if_pos rfl] at H; exact H
              clear H
              have H := H1
              clear H1
              replace H := Option.bind_eq_some_iff.mp H
              obtain ⟨t161, A250, H⟩ := H
              replace H : (some (t161, true)) = some (r1, r2) := H
              have A25 := Aside0.mk A250
              clear A250
              simp only [Option.some.injEq, Prod.mk.injEq] at H
              obtain ⟨rfl, rfl⟩ := H
              go_wp2_with (first | (go_at_call 68; (with_reducible refine (lockkeeperref1_Token.calls kj9 (t158.extract 0 (x6_9 : Int).toNat) true _ A18.out).mono ?_); rintro e w' ⟨rfl, ⟨nd, rfl⟩⟩) | (go_at_call 68; (with_reducible refine (lockkeeperref1_Token.calls kj9 (t158.extract ((ji20) : Int).toNat t158.size) true _ A23.out).mono ?_); rintro e w' ⟨rfl, ⟨nd, rfl⟩⟩) | ((with_reducible refine gate_callee (f := 69) rfl ?_); refine goesL_ (some 55) rfl rfl Try.func69 (by kernel_rfl) rfl #[.string t158] rfl (by (try simp only [List.map_toArray, List.map_cons, List.map_nil]); first | done | rfl | (simp only [List.length_drop, List.length_take]; rfl)) ?_; (with_reducible refine (lockkeeperref1_Lower.calls t158 t161 _ A25.out).mono ?_); rintro e w26 ⟨rfl, hb⟩; refine ⟨_, rfl, ?_⟩; have n0_ := Aside0.mk (below_step (by repeat (first | (with_reducible first | exact HB.out | apply below_alloc | apply pw_below_drewN | apply below_drew1) | exact HB.out)) hb); clear HB; have HB := n0_; clear n0_; (try clear hb); (try clear hb2); (try clear hk); (try clear hi)))
              go_ret2
              exact ⟨by first | rfl | (simp [errW_none, errW_some] <;> rfl) | (simp only [← hji20]; first | rfl | (simp [errW_none, errW_some] <;> rfl)) | (simp [*, errW_none, errW_some] <;> rfl), by repeat (first | (with_reducible first | exact HB.out | apply below_alloc | apply pw_below_drewN | apply below_drew1) | exact HB.out)⟩
             ·replace c24 := Bool.eq_false_iff.mpr c24
              subst c24
              have H1 : (some ((⟨#[]⟩ : ByteArray), false)) = some (r1, r2) := by rw [if_neg (show ¬ (false = true) by decide)] at H; exact H
              clear H
              have H := H1
              clear H1
              simp only [Option.some.injEq, Prod.mk.injEq] at H
              obtain ⟨rfl, rfl⟩ := H
              go_wp2_with (first | (go_at_call 68; (with_reducible refine (lockkeeperref1_Token.calls kj9 (t158.extract 0 (x6_9 : Int).toNat) true _ A18.out).mono ?_); rintro e w' ⟨rfl, ⟨nd, rfl⟩⟩) | (go_at_call 68; (with_reducible refine (lockkeeperref1_Token.calls kj9 (t158.extract ((ji20) : Int).toNat t158.size) false _ A23.out).mono ?_); rintro e w' ⟨rfl, ⟨nd, rfl⟩⟩))
              go_ret2
              exact ⟨by first | rfl | (simp [errW_none, errW_some] <;> rfl) | (simp only [← hji20]; first | rfl | (simp [errW_none, errW_some] <;> rfl)) | (simp [*, errW_none, errW_some] <;> rfl), by repeat (first | (with_reducible first | exact HB.out | apply below_alloc | apply pw_below_drewN | apply below_drew1) | exact HB.out)⟩
            ·rw [if_neg c22] at H
             exact absurd H (by simp)
           ·rw [if_neg c21] at H
            exact absurd H (by simp)
          ·replace c19 := Bool.eq_false_iff.mpr c19
           subst c19
           have H1 : (some ((⟨#[]⟩ : ByteArray), false)) = some (r1, r2) := by rw [if_neg (show ¬ (false = true) by decide)] at H; exact H
           clear H
           have H := H1
           clear H1
           simp only [Option.some.injEq, Prod.mk.injEq] at H
           obtain ⟨rfl, rfl⟩ := H
           go_wp2_with (first | (go_at_call 68; (with_reducible refine (lockkeeperref1_Token.calls kj9 (t158.extract 0 (x6_9 : Int).toNat) false _ A18.out).mono ?_); rintro e w' ⟨rfl, ⟨nd, rfl⟩⟩))
           go_ret2
           exact ⟨by first | rfl | (simp [errW_none, errW_some] <;> rfl) | (simp [*, errW_none, errW_some] <;> rfl), by repeat (first | (with_reducible first | exact HB.out | apply below_alloc | apply pw_below_drewN | apply below_drew1) | exact HB.out)⟩
         ·rw [if_neg c17] at H
          exact absurd H (by simp)
        ·rw [if_neg c16] at H
         exact absurd H (by simp)
    ·rw [if_neg c8] at H
     exact absurd H (by simp)
   ·rw [if_neg c7] at H
    exact absurd H (by simp)

/-! ### lockkeeperref7_Byte: function 40 -/
def lockkeeperref7_Byte.f (k : Nat) (a0 : Int) : Option (Bool) := if a0 = 9 then (some true) else (if a0 ≥ 32 then (if a0 = 127 then (some false) else ((lockkeeperref1_In.f k a0 (⟨#[34, 40, 41, 58, 60, 62, 63, 64, 91, 92, 93, 123, 125]⟩ : ByteArray)).bind fun t162 => (some (!t162)))) else (some false))
theorem lockkeeperref7_Byte.mono : ∀ a0 k, LeO (lockkeeperref7_Byte.f k a0) (lockkeeperref7_Byte.f (k + 1) a0) := by
 intro a0 k
 unfold lockkeeperref7_Byte.f
 repeat' first
   | (with_reducible exact lockkeeperref1_In.mono _ _ _)
   | (with_reducible exact LeO.refl _)
   | (with_reducible exact LeO.none _)
   | (with_reducible refine LeO.ite ?_ ?_)
   | (with_reducible refine LeO.bind ?_ (fun _ => ?_))
   | exact lockkeeperref1_In.mono _ _ _
   | exact LeO.none _
   | refine LeO.ite ?_ ?_
   | refine LeO.bind ?_ (fun _ => ?_)
set_option maxHeartbeats 8000000 in
set_option maxRecDepth 100000 in
theorem lockkeeperref7_Byte.calls (k : Nat) (a0 : Int) (r : Bool) (w : World) (h : lockkeeperref7_Byte.f k a0 = some r) :
  Calls Try.prog 40 #[.int .u8 a0] w fun e w' => e = .returned (.bool r) ∧ Drawn0 w w' := by
 have H : (if a0 = 9 then (some true) else (if a0 ≥ 32 then (if a0 = 127 then (some false) else ((lockkeeperref1_In.f k a0 (⟨#[34, 40, 41, 58, 60, 62, 63, 64, 91, 92, 93, 123, 125]⟩ : ByteArray)).bind fun t162 => (some (!t162)))) else (some false))) = some r := h
 clear h
 by_cases c2 : a0 = 9
 ·rw [if_pos c2] at H
  have c2b0 : (a0 == 9) = true := beq_iff_eq.mpr c2
  have c2b1 : (a0 != 9) = false := bne_eq_false_iff_eq.mpr c2
  clear c2
  obtain rfl := Option.some.inj H
  go_enter Try.func40, Try.ntmps40
  go_wp2
  go_ret
  exact ⟨by first | rfl | (simp; done) | (simp [*]; done), by repeat (first | exact Drawn0.refl _ | apply Drawn0.step)⟩
 ·rw [if_neg c2] at H
  have c2b0 : (a0 == 9) = false := beq_eq_false_iff_ne.mpr c2
  have c2b1 : (a0 != 9) = true := bne_iff_ne.mpr c2
  by_cases c3 : a0 ≥ 32
  ·rw [if_pos c3] at H
   have c3b0 : decide (32 ≤ a0) = true := decide_eq_true c3
   clear c3
   by_cases c4 : a0 = 127
   ·rw [if_pos c4] at H
    have c4b0 : (a0 == 127) = true := beq_iff_eq.mpr c4
    have c4b1 : (a0 != 127) = false := bne_eq_false_iff_eq.mpr c4
    clear c4
    obtain rfl := Option.some.inj H
    go_enter Try.func40, Try.ntmps40
    go_wp2
    go_ret
    exact ⟨by first | rfl | (simp; done) | (simp [*]; done), by repeat (first | exact Drawn0.refl _ | apply Drawn0.step)⟩
   ·rw [if_neg c4] at H
    have c4b0 : (a0 == 127) = false := beq_eq_false_iff_ne.mpr c4
    have c4b1 : (a0 != 127) = true := bne_iff_ne.mpr c4
    replace H := Option.bind_eq_some_iff.mp H
    obtain ⟨t162, A50, H⟩ := H
    replace H : (some (!t162)) = some r := H
    have A5 := Aside0.mk A50
    clear A50
    obtain rfl := Option.some.inj H
    go_enter Try.func40, Try.ntmps40
    go_wp2_with (first | (go_at_call 70; (with_reducible refine (lockkeeperref1_In.calls k a0 (⟨#[34, 40, 41, 58, 60, 62, 63, 64, 91, 92, 93, 123, 125]⟩ : ByteArray) t162 _ A5.out).mono ?_); rintro e w' ⟨rfl, ⟨nd, rfl⟩⟩))
    go_ret
    exact ⟨by first | rfl | (simp; done) | (simp [*]; done), by repeat (first | exact Drawn0.refl _ | apply Drawn0.step)⟩
  ·rw [if_neg c3] at H
   have c3b0 : decide (32 ≤ a0) = false := decide_eq_false c3
   clear c3
   obtain rfl := Option.some.inj H
   go_enter Try.func40, Try.ntmps40
   go_wp2
   go_ret
   exact ⟨by first | rfl | (simp; done) | (simp [*]; done), by repeat (first | exact Drawn0.refl _ | apply Drawn0.step)⟩

/-! ### lockkeeperref1_Digits: function 71 -/
mutual
def lockkeeperref1_Digits.l0 : Nat → ByteArray → Int → Int → Option (Int × Bool)
 | 0, _, _, _ => none
 | k + 1, x0, x4, x5 => if x5 < (x0.size : Int) then (if 0 ≤ x5 then (if (bt x0 x5) < 48 then (lockkeeperref1_Digits.j1 k x0 x4 x5 true) else (lockkeeperref1_Digits.j1 k x0 x4 x5 (decide ((bt x0 x5) > 57)))) else (none)) else (some (x4, decide ((x0.size : Int) > 0)))
def lockkeeperref1_Digits.j1 : Nat → ByteArray → Int → Int → Bool → Option (Int × Bool)
 | 0, _, _, _, _ => none
 | k + 1, x0, x4, x5, x22 => if x22 = true then (some (0, false)) else (if 0 ≤ x5 then (if x5 < (x0.size : Int) then (if x4 > ((18446744073709551615 - (((bt x0 x5) - 48) % 256)) / 10) then (lockkeeperref1_Digits.l0 k x0 18446744073709551615 (wrap64 (x5 + 1))) else (lockkeeperref1_Digits.l0 k x0 (IntKind.u64.wrap ((IntKind.u64.wrap (10 * x4)) + (((bt x0 x5) - 48) % 256))) (wrap64 (x5 + 1)))) else (none)) else (none))
end
def lockkeeperref1_Digits.f (k : Nat) (a0 : ByteArray) : Option (Int × Bool) := lockkeeperref1_Digits.l0 k a0 0 0
theorem lockkeeperref1_Digits.mono_l : ∀ k, (∀ y0 y1 y2, LeO (lockkeeperref1_Digits.l0 k y0 y1 y2) (lockkeeperref1_Digits.l0 (k + 1) y0 y1 y2)) ∧ (∀ y0 y1 y2 y3, LeO (lockkeeperref1_Digits.j1 k y0 y1 y2 y3) (lockkeeperref1_Digits.j1 (k + 1) y0 y1 y2 y3))
 | 0 => ⟨fun _ _ _ r h => by simp [lockkeeperref1_Digits.l0] at h, fun _ _ _ _ r h => by simp [lockkeeperref1_Digits.j1] at h⟩
 | k + 1 => by
  obtain ⟨ih0, ih1⟩ := lockkeeperref1_Digits.mono_l k
  refine ⟨?_, ?_⟩
  ·intro y0 y1 y2
   unfold lockkeeperref1_Digits.l0
   repeat' first
   | (with_reducible exact ih0 _ _ _)
   | (with_reducible exact ih1 _ _ _ _)
   | (with_reducible exact LeO.refl _)
   | (with_reducible exact LeO.none _)
   | (with_reducible refine LeO.ite ?_ ?_)
   | (with_reducible refine LeO.bind ?_ (fun _ => ?_))
   | exact ih0 _ _ _
   | exact ih1 _ _ _ _
   | exact LeO.none _
   | refine LeO.ite ?_ ?_
   | refine LeO.bind ?_ (fun _ => ?_)
  ·intro y0 y1 y2 y3
   unfold lockkeeperref1_Digits.j1
   repeat' first
   | (with_reducible exact ih0 _ _ _)
   | (with_reducible exact ih1 _ _ _ _)
   | (with_reducible exact LeO.refl _)
   | (with_reducible exact LeO.none _)
   | (with_reducible refine LeO.ite ?_ ?_)
   | (with_reducible refine LeO.bind ?_ (fun _ => ?_))
   | exact ih0 _ _ _
   | exact ih1 _ _ _ _
   | exact LeO.none _
   | refine LeO.ite ?_ ?_
   | refine LeO.bind ?_ (fun _ => ?_)
theorem lockkeeperref1_Digits.mono : ∀ a0 k, LeO (lockkeeperref1_Digits.f k a0) (lockkeeperref1_Digits.f (k + 1) a0) := by
 intro a0 k
 obtain ⟨ih0, ih1⟩ := lockkeeperref1_Digits.mono_l k
 unfold lockkeeperref1_Digits.f
 repeat' first
   | (with_reducible exact ih0 _ _ _)
   | (with_reducible exact ih1 _ _ _ _)
   | (with_reducible exact LeO.refl _)
   | (with_reducible exact LeO.none _)
   | (with_reducible refine LeO.ite ?_ ?_)
   | (with_reducible refine LeO.bind ?_ (fun _ => ?_))
   | exact ih0 _ _ _
   | exact ih1 _ _ _ _
   | exact LeO.none _
   | refine LeO.ite ?_ ?_
   | refine LeO.bind ?_ (fun _ => ?_)
set_option maxHeartbeats 8000000 in
set_option maxRecDepth 100000 in
theorem lockkeeperref1_Digits.calls (k : Nat) (a0 : ByteArray) (r1 : Int) (r2 : Bool) (w : World) (h : lockkeeperref1_Digits.f k a0 = some (r1, r2)) :
  Calls Try.prog 71 #[.string a0] w fun e w' => e = .returned (.tuple #[.int .u64 r1, .bool r2]) ∧ Drawn0 w w' := by
 have H : (lockkeeperref1_Digits.l0 k a0 0 0) = some (r1, r2) := h
 clear h
 have H' := Aside0.mk H
 clear H
 go_enter Try.func71, Try.ntmps71
 go_wp2
 go_loopg [4, 5] k (fun kq v4 v5 w' => ∃ (x4_1 : Int) (x5_1 : Int), v4 = .int .u64 x4_1 ∧ v5 = .int .i64 x5_1 ∧ Aside0 (lockkeeperref1_Digits.l0 kq a0 x4_1 x5_1 = some (r1, r2)) ∧ Aside0 (kq ≤ k) ∧ Drawn0 w w')
 case atStart => exact ⟨(0), (0), (by first | rfl | (simp; done) | (simp [*]; done)), (by first | rfl | (simp; done) | (simp [*]; done)), H', ⟨Nat.le_refl _⟩, by repeat (first | exact Drawn0.refl _ | apply Drawn0.step)⟩
 case round =>
  clear H'
  obtain ⟨x4_1, x5_1, rfl, rfl, HA, HK1, ⟨m1, rfl⟩⟩ := hrel
  cases gk with
  | zero => exact absurd HA.out (by simp [lockkeeperref1_Digits.l0])
  | succ k1 =>
   have H := HA.out
   clear HA
   simp only [lockkeeperref1_Digits.l0] at H
   by_cases c2 : x5_1 < (a0.size : Int)
   ·rw [if_pos c2] at H
    have c2b0 : decide (x5_1 < (a0.size : Int)) = true := decide_eq_true c2
    clear c2
    have HC3 := Aside0.mk H
    clear H
    go_upto_region 5 with (fail)
    go_cut [22] (fun v22 wc => ∃ (kq : Nat) (x22_2 : Bool), v22 = .bool x22_2 ∧ Aside0 (lockkeeperref1_Digits.j1 kq a0 x4_1 x5_1 x22_2 = some (r1, r2)) ∧ Aside0 (kq ≤ k1) ∧ Drawn0 w wc)
    case first =>
     have H := HC3.out
     clear HC3
     by_cases c4 : 0 ≤ x5_1
     ·rw [if_pos c4] at H
      have c4b0 : decide (0 ≤ x5_1) = true := decide_eq_true c4
      clear c4
      (first | rw [c4b0] | (simp only [i64_w, i32_w]; rw [c4b0]) | skip)
      by_cases c6 : (bt a0 x5_1) < 48
      ·rw [if_pos c6] at H
       have c6b0 : decide ((bt a0 x5_1) < 48) = true := decide_eq_true c6
       clear c6
       have H' := Aside0.mk H
       clear H
       have p5 : 0 ≤ (x5_1 : Int) := of_decide_eq_true (by first | (with_reducible assumption) | assumption)
       have q5 : x5_1 < (a0.size : Int) := of_decide_eq_true (by first | (with_reducible assumption) | assumption)
       have hx5 := bt_at a0 x5_1
       replace p5 := eq_true p5
       replace q5 := eq_true q5
       go_wp2
       go_meet
       case rel => exact ⟨_, (true), (by first | rfl | (simp; done) | (simp [*]; done)), H', ⟨by have := HK1.out; first | omega | exact Nat.le_refl _⟩, by repeat (first | exact Drawn0.refl _ | apply Drawn0.step)⟩
      ·rw [if_neg c6] at H
       have c6b0 : decide ((bt a0 x5_1) < 48) = false := decide_eq_false c6
       clear c6
       have H' := Aside0.mk H
       clear H
       have p5 : 0 ≤ (x5_1 : Int) := of_decide_eq_true (by first | (with_reducible assumption) | assumption)
       have q5 : x5_1 < (a0.size : Int) := of_decide_eq_true (by first | (with_reducible assumption) | assumption)
       have hx5 := bt_at a0 x5_1
       replace p5 := eq_true p5
       replace q5 := eq_true q5
       have p7 : 0 ≤ (x5_1 : Int) := of_decide_eq_true (by first | (with_reducible assumption) | assumption)
       have q7 : x5_1 < (a0.size : Int) := of_decide_eq_true (by first | (with_reducible assumption) | assumption)
       have hx7 := bt_at a0 x5_1
       replace p7 := eq_true p7
       replace q7 := eq_true q7
       go_wp2
       go_meet
       case rel => exact ⟨_, (decide ((bt a0 x5_1) > 57)), (by first | rfl | (simp; done) | (simp [*]; done)), H', ⟨by have := HK1.out; first | omega | exact Nat.le_refl _⟩, by repeat (first | exact Drawn0.refl _ | apply Drawn0.step)⟩
     ·rw [if_neg c4] at H
      exact absurd H (by simp)
    case rest =>
     clear HC3
     try clear c2
     try clear c2b0
     try clear p2
     try clear c4
     try clear c4b0
     try clear p5
     try clear q5
     try clear hx5
     try clear c6
     try clear c6b0
     try clear c7
     try clear p7
     try clear q7
     try clear hx7
     try clear p5
     try clear p7
     try clear q5
     try clear q7
     obtain ⟨kq, x22_2, rfl, HA, HJ2, ⟨mc2, rfl⟩⟩ := hcut
     cases kq with
     | zero => exact absurd HA.out (by simp [lockkeeperref1_Digits.j1])
     | succ kj2 =>
      have H := HA.out
      clear HA
      simp only [lockkeeperref1_Digits.j1] at H
      by_cases c8 : x22_2 = true
      ·subst c8
       have H1 : (some (0, false)) = some (r1, r2) := by rw [if_pos rfl] at H; exact H
       clear H
       have H := H1
       clear H1
       simp only [Option.some.injEq, Prod.mk.injEq] at H
       obtain ⟨rfl, rfl⟩ := H
       go_wp2
       go_ret2
       exact ⟨by first | rfl | (simp; done) | (simp [*]; done), by repeat (first | exact Drawn0.refl _ | apply Drawn0.step)⟩
      ·replace c8 := Bool.eq_false_iff.mpr c8
       subst c8
       have H1 : (if 0 ≤ x5_1 then (if x5_1 < (a0.size : Int) then (if x4_1 > ((18446744073709551615 - (((bt a0 x5_1) - 48) % 256)) / 10) then (lockkeeperref1_Digits.l0 kj2 a0 18446744073709551615 (wrap64 (x5_1 + 1))) else (lockkeeperref1_Digits.l0 kj2 a0 (IntKind.u64.wrap ((IntKind.u64.wrap (10 * x4_1)) + (((bt a0 x5_1) - 48) % 256))) (wrap64 (x5_1 + 1)))) else (none)) else (none)) = some (r1, r2) := by rw [if_neg (show ¬ (false = true) by decide)] at H; exact H
       clear H
       have H := H1
       clear H1
       by_cases c9 : 0 ≤ x5_1
       ·rw [if_pos c9] at H
        have c9b0 : decide (0 ≤ x5_1) = true := decide_eq_true c9
        clear c9
        by_cases c10 : x5_1 < (a0.size : Int)
        ·rw [if_pos c10] at H
         have c10b0 : decide (x5_1 < (a0.size : Int)) = true := decide_eq_true c10
         clear c10
         by_cases c12 : x4_1 > ((18446744073709551615 - (((bt a0 x5_1) - 48) % 256)) / 10)
         ·rw [if_pos c12] at H
          have c12b0 : decide (((18446744073709551615 - (((bt a0 x5_1) - 48) % 256)) / 10) < x4_1) = true := decide_eq_true c12
          clear c12
          have H' := Aside0.mk H
          clear H
          have p11 : 0 ≤ (x5_1 : Int) := of_decide_eq_true (by first | (with_reducible assumption) | assumption)
          have q11 : x5_1 < (a0.size : Int) := of_decide_eq_true (by first | (with_reducible assumption) | assumption)
          have hx11 := bt_at a0 x5_1
          replace p11 := eq_true p11
          replace q11 := eq_true q11
          go_wp2
          go_roundg kj2
          case measure => have := HK1.out; have := HJ2.out; omega
          case rel => exact ⟨(18446744073709551615), (wrap64 (x5_1 + 1)), (by first | rfl | (simp; done) | (simp [*]; done)), (by first | rfl | (simp; done) | (simp [*]; done)), H', ⟨by have := HK1.out; have := HJ2.out; omega⟩, by repeat (first | exact Drawn0.refl _ | apply Drawn0.step)⟩
         ·rw [if_neg c12] at H
          have c12b0 : decide (((18446744073709551615 - (((bt a0 x5_1) - 48) % 256)) / 10) < x4_1) = false := decide_eq_false c12
          clear c12
          have H' := Aside0.mk H
          clear H
          have p11 : 0 ≤ (x5_1 : Int) := of_decide_eq_true (by first | (with_reducible assumption) | assumption)
          have q11 : x5_1 < (a0.size : Int) := of_decide_eq_true (by first | (with_reducible assumption) | assumption)
          have hx11 := bt_at a0 x5_1
          replace p11 := eq_true p11
          replace q11 := eq_true q11
          go_wp2
          go_roundg kj2
          case measure => have := HK1.out; have := HJ2.out; omega
          case rel => exact ⟨(IntKind.u64.wrap ((IntKind.u64.wrap (10 * x4_1)) + (((bt a0 x5_1) - 48) % 256))), (wrap64 (x5_1 + 1)), (by first | rfl | (simp; done) | (simp [*]; done)), (by first | rfl | (simp; done) | (simp [*]; done)), H', ⟨by have := HK1.out; have := HJ2.out; omega⟩, by repeat (first | exact Drawn0.refl _ | apply Drawn0.step)⟩
        ·rw [if_neg c10] at H
         exact absurd H (by simp)
       ·rw [if_neg c9] at H
        exact absurd H (by simp)
   ·rw [if_neg c2] at H
    have c2b0 : decide (x5_1 < (a0.size : Int)) = false := decide_eq_false c2
    clear c2
    simp only [Option.some.injEq, Prod.mk.injEq] at H
    obtain ⟨rfl, rfl⟩ := H
    go_wp2
    go_ret2
    exact ⟨by first | rfl | (simp; done) | (simp [*]; done), by repeat (first | exact Drawn0.refl _ | apply Drawn0.step)⟩

/-! ### lockkeeperref7_Range: function 41 -/
mutual
def lockkeeperref7_Range.j0 : Nat → ByteArray → Bool → Option (Bool)
 | 0, _, _ => none
 | k + 1, x0, x16 => if x16 = true then (some false) else (if 6 ≤ (x0.size : Int) then (lockkeeperref7_Range.l0 k (x0.extract 6 x0.size) 0) else (none))
def lockkeeperref7_Range.j2 : Nat → ByteArray → Int → Option (Bool)
 | 0, _, _ => none
 | k + 1, x3, x4 => if x4 = (x3.size : Int) then (some false) else (if 0 ≤ x4 then (if x4 ≤ (x3.size : Int) then ((lockkeeperref1_Digits.f k (x3.extract 0 (x4 : Int).toNat)).bind fun bt163 => (if bt163.2 = true then (if (wrap64 (x4 + 1)) = (x3.size : Int) then (some true) else (if 0 ≤ (wrap64 (x4 + 1)) then (if (wrap64 (x4 + 1)) ≤ (x3.size : Int) then ((lockkeeperref1_Digits.f k (x3.extract ((wrap64 (x4 + 1)) : Int).toNat x3.size)).bind fun bt165 => (if bt165.2 = true then (some (decide (bt165.1 ≥ bt163.1))) else (some false))) else (none)) else (none))) else (some false))) else (none)) else (none))
def lockkeeperref7_Range.l0 : Nat → ByteArray → Int → Option (Bool)
 | 0, _, _ => none
 | k + 1, x3, x4 => if x4 < (x3.size : Int) then (if 0 ≤ x4 then (if (bt x3 x4) = 45 then (lockkeeperref7_Range.j2 k x3 x4) else (lockkeeperref7_Range.l0 k x3 (wrap64 (x4 + 1)))) else (none)) else (lockkeeperref7_Range.j2 k x3 x4)
end
def lockkeeperref7_Range.f (k : Nat) (a0 : ByteArray) : Option (Bool) := if (a0.size : Int) < 6 then (lockkeeperref7_Range.j0 k a0 true) else (if 0 ≤ 6 then (if 6 ≤ (a0.size : Int) then (lockkeeperref7_Range.j0 k a0 ((a0.extract 0 6).toList != ([98, 121, 116, 101, 115, 61] : List UInt8))) else (none)) else (none))
theorem lockkeeperref7_Range.mono_l : ∀ k, (∀ y0 y1, LeO (lockkeeperref7_Range.j0 k y0 y1) (lockkeeperref7_Range.j0 (k + 1) y0 y1)) ∧ (∀ y0 y1, LeO (lockkeeperref7_Range.j2 k y0 y1) (lockkeeperref7_Range.j2 (k + 1) y0 y1)) ∧ (∀ y0 y1, LeO (lockkeeperref7_Range.l0 k y0 y1) (lockkeeperref7_Range.l0 (k + 1) y0 y1))
 | 0 => ⟨fun _ _ r h => by simp [lockkeeperref7_Range.j0] at h, fun _ _ r h => by simp [lockkeeperref7_Range.j2] at h, fun _ _ r h => by simp [lockkeeperref7_Range.l0] at h⟩
 | k + 1 => by
  obtain ⟨ih0, ih1, ih2⟩ := lockkeeperref7_Range.mono_l k
  refine ⟨?_, ?_, ?_⟩
  ·intro y0 y1
   unfold lockkeeperref7_Range.j0
   repeat' first
   | (with_reducible exact ih0 _ _)
   | (with_reducible exact ih1 _ _)
   | (with_reducible exact ih2 _ _)
   | (with_reducible exact lockkeeperref1_Digits.mono _ _)
   | (with_reducible exact LeO.refl _)
   | (with_reducible exact LeO.none _)
   | (with_reducible refine LeO.ite ?_ ?_)
   | (with_reducible refine LeO.bind ?_ (fun _ => ?_))
   | exact ih0 _ _
   | exact ih1 _ _
   | exact ih2 _ _
   | exact lockkeeperref1_Digits.mono _ _
   | exact LeO.none _
   | refine LeO.ite ?_ ?_
   | refine LeO.bind ?_ (fun _ => ?_)
  ·intro y0 y1
   unfold lockkeeperref7_Range.j2
   repeat' first
   | (with_reducible exact ih0 _ _)
   | (with_reducible exact ih1 _ _)
   | (with_reducible exact ih2 _ _)
   | (with_reducible exact lockkeeperref1_Digits.mono _ _)
   | (with_reducible exact LeO.refl _)
   | (with_reducible exact LeO.none _)
   | (with_reducible refine LeO.ite ?_ ?_)
   | (with_reducible refine LeO.bind ?_ (fun _ => ?_))
   | exact ih0 _ _
   | exact ih1 _ _
   | exact ih2 _ _
   | exact lockkeeperref1_Digits.mono _ _
   | exact LeO.none _
   | refine LeO.ite ?_ ?_
   | refine LeO.bind ?_ (fun _ => ?_)
  ·intro y0 y1
   unfold lockkeeperref7_Range.l0
   repeat' first
   | (with_reducible exact ih0 _ _)
   | (with_reducible exact ih1 _ _)
   | (with_reducible exact ih2 _ _)
   | (with_reducible exact lockkeeperref1_Digits.mono _ _)
   | (with_reducible exact LeO.refl _)
   | (with_reducible exact LeO.none _)
   | (with_reducible refine LeO.ite ?_ ?_)
   | (with_reducible refine LeO.bind ?_ (fun _ => ?_))
   | exact ih0 _ _
   | exact ih1 _ _
   | exact ih2 _ _
   | exact lockkeeperref1_Digits.mono _ _
   | exact LeO.none _
   | refine LeO.ite ?_ ?_
   | refine LeO.bind ?_ (fun _ => ?_)
theorem lockkeeperref7_Range.mono : ∀ a0 k, LeO (lockkeeperref7_Range.f k a0) (lockkeeperref7_Range.f (k + 1) a0) := by
 intro a0 k
 obtain ⟨ih0, ih1, ih2⟩ := lockkeeperref7_Range.mono_l k
 unfold lockkeeperref7_Range.f
 repeat' first
   | (with_reducible exact ih0 _ _)
   | (with_reducible exact ih1 _ _)
   | (with_reducible exact ih2 _ _)
   | (with_reducible exact lockkeeperref1_Digits.mono _ _)
   | (with_reducible exact LeO.refl _)
   | (with_reducible exact LeO.none _)
   | (with_reducible refine LeO.ite ?_ ?_)
   | (with_reducible refine LeO.bind ?_ (fun _ => ?_))
   | exact ih0 _ _
   | exact ih1 _ _
   | exact ih2 _ _
   | exact lockkeeperref1_Digits.mono _ _
   | exact LeO.none _
   | refine LeO.ite ?_ ?_
   | refine LeO.bind ?_ (fun _ => ?_)
set_option maxHeartbeats 8000000 in
set_option maxRecDepth 100000 in
theorem lockkeeperref7_Range.calls (k : Nat) (a0 : ByteArray) (r : Bool) (w : World) (h : lockkeeperref7_Range.f k a0 = some r) :
  Calls Try.prog 41 #[.string a0] w fun e w' => e = .returned (.bool r) ∧ Drawn0 w w' := by
 have H : (if (a0.size : Int) < 6 then (lockkeeperref7_Range.j0 k a0 true) else (if 0 ≤ 6 then (if 6 ≤ (a0.size : Int) then (lockkeeperref7_Range.j0 k a0 ((a0.extract 0 6).toList != ([98, 121, 116, 101, 115, 61] : List UInt8))) else (none)) else (none))) = some r := h
 clear h
 have HC2 := Aside0.mk H
 clear H
 go_enter Try.func41, Try.ntmps41
 go_upto_region 1 with (fail)
 go_cut [16] (fun v16 wc => ∃ (kq : Nat) (x16_1 : Bool), v16 = .bool x16_1 ∧ Aside0 (lockkeeperref7_Range.j0 kq a0 x16_1 = some r) ∧ Aside0 (kq ≤ k) ∧ Drawn0 w wc)
 case first =>
  have H := HC2.out
  clear HC2
  by_cases c3 : (a0.size : Int) < 6
  ·rw [if_pos c3] at H
   have c3b0 : decide ((a0.size : Int) < 6) = true := decide_eq_true c3
   have c3b1 : decide (a0.size < 6) = true := decide_eq_true (by omega)
   clear c3
   (first | rw [c3b0] | (simp only [i64_w, i32_w]; rw [c3b0]) | skip)
   have H' := Aside0.mk H
   clear H
   go_wp2
   go_meet
   case rel => exact ⟨_, (true), (by first | rfl | (simp; done) | (simp [*]; done)), H', ⟨by first | omega | exact Nat.le_refl _⟩, by repeat (first | exact Drawn0.refl _ | apply Drawn0.step)⟩
  ·rw [if_neg c3] at H
   have c3b0 : decide ((a0.size : Int) < 6) = false := decide_eq_false c3
   have c3b1 : decide (a0.size < 6) = false := decide_eq_false (by omega)
   clear c3
   (first | rw [c3b0] | (simp only [i64_w, i32_w]; rw [c3b0]) | skip)
   by_cases c4 : 0 ≤ 6
   ·rw [if_pos c4] at H
    have c4b0 := eq_true c4
    have c4b1 : decide (0 ≤ 6) = true := decide_eq_true c4
    clear c4
    by_cases c5 : 6 ≤ (a0.size : Int)
    ·rw [if_pos c5] at H
     have c5b0 := eq_true c5
     have c5b1 : decide (6 ≤ (a0.size : Int)) = true := decide_eq_true c5
     clear c5
     have H' := Aside0.mk H
     clear H
     go_wp2
     go_meet
     case rel => exact ⟨_, (((a0.extract 0 6).toList != ([98, 121, 116, 101, 115, 61] : List UInt8))), (by first | rfl | (simp; done) | (simp [*]; done)), H', ⟨by first | omega | exact Nat.le_refl _⟩, by repeat (first | exact Drawn0.refl _ | apply Drawn0.step)⟩
    ·rw [if_neg c5] at H
     exact absurd H (by simp)
   ·rw [if_neg c4] at H
    exact absurd H (by simp)
 case rest =>
  clear HC2
  try clear p2
  try clear c3
  try clear c3b0
  try clear c3b1
  try clear c4
  try clear c4b0
  try clear c4b1
  try clear c5
  try clear c5b0
  try clear c5b1
  obtain ⟨kq, x16_1, rfl, HA, HJ1, ⟨mc1, rfl⟩⟩ := hcut
  cases kq with
  | zero => exact absurd HA.out (by simp [lockkeeperref7_Range.j0])
  | succ kj1 =>
   have H := HA.out
   clear HA
   simp only [lockkeeperref7_Range.j0] at H
   by_cases c6 : x16_1 = true
   ·subst c6
    have H1 : (some false) = some r := by rw [if_pos rfl] at H; exact H
    clear H
    have H := H1
    clear H1
    obtain rfl := Option.some.inj H
    go_wp2
    go_ret
    exact ⟨by first | rfl | (simp; done) | (simp [*]; done), by repeat (first | exact Drawn0.refl _ | apply Drawn0.step)⟩
   ·replace c6 := Bool.eq_false_iff.mpr c6
    subst c6
    have H1 : (if 6 ≤ (a0.size : Int) then (lockkeeperref7_Range.l0 kj1 (a0.extract 6 a0.size) 0) else (none)) = some r := by rw [if_neg (show ¬ (false = true) by decide)] at H; exact H
    clear H
    have H := H1
    clear H1
    by_cases c7 : 6 ≤ (a0.size : Int)
    ·rw [if_pos c7] at H
     have c7b0 := eq_true c7
     have c7b1 : decide (6 ≤ (a0.size : Int)) = true := decide_eq_true c7
     clear c7
     have HC8 := Aside0.mk H
     clear H
     go_upto_block 0 with (fail)
     go_cut [4] (fun v4 wc => ∃ (kq : Nat) (x4_7 : Int), v4 = .int .i64 x4_7 ∧ Aside0 (lockkeeperref7_Range.j2 kq (a0.extract 6 a0.size) x4_7 = some r) ∧ Aside0 (kq ≤ kj1) ∧ Drawn0 w wc)
     case first =>
      have H := HC8.out
      clear HC8
      have H' := Aside0.mk H
      clear H
      go_wp2
      generalize a0.extract 6 a0.size = gx1 at *
      go_loopg [4] kj1 (fun kq v4 w' => ∃ (x4_2 : Int), v4 = .int .i64 x4_2 ∧ Aside0 (lockkeeperref7_Range.l0 kq gx1 x4_2 = some r) ∧ Aside0 (kq ≤ kj1) ∧ Drawn0 w w')
      case atStart => exact ⟨(0), (by first | rfl | (simp; done) | (simp [*]; done)), H', ⟨Nat.le_refl _⟩, by repeat (first | exact Drawn0.refl _ | apply Drawn0.step)⟩
      case round =>
       clear H'
       try clear c1
       try clear p2
       try clear c3
       try clear c3b0
       try clear c3b1
       try clear c4
       try clear c4b0
       try clear c4b1
       try clear c5
       try clear c5b0
       try clear c5b1
       try clear c6
       try clear c7
       try clear c7b0
       try clear c7b1
       try clear p2
       obtain ⟨x4_2, rfl, HA, HK2, ⟨m2, rfl⟩⟩ := hrel
       cases gk with
       | zero => exact absurd HA.out (by simp [lockkeeperref7_Range.l0])
       | succ k2 =>
        have H := HA.out
        clear HA
        simp only [lockkeeperref7_Range.l0] at H
        by_cases c9 : x4_2 < (gx1.size : Int)
        ·rw [if_pos c9] at H
         have c9b0 : decide (x4_2 < (gx1.size : Int)) = true := decide_eq_true c9
         clear c9
         (first | rw [c9b0] | (simp only [i64_w, i32_w]; rw [c9b0]) | skip)
         by_cases c10 : 0 ≤ x4_2
         ·rw [if_pos c10] at H
          have c10b0 : decide (0 ≤ x4_2) = true := decide_eq_true c10
          clear c10
          by_cases c12 : (bt gx1 x4_2) = 45
          ·rw [if_pos c12] at H
           have c12b0 : ((bt gx1 x4_2) == 45) = true := beq_iff_eq.mpr c12
           have c12b1 : ((bt gx1 x4_2) != 45) = false := bne_eq_false_iff_eq.mpr c12
           clear c12
           have H' := Aside0.mk H
           clear H
           have p11 : 0 ≤ (x4_2 : Int) := of_decide_eq_true (by first | (with_reducible assumption) | assumption)
           have q11 : x4_2 < (gx1.size : Int) := of_decide_eq_true (by first | (with_reducible assumption) | assumption)
           have hx11 := bt_at gx1 x4_2
           replace p11 := eq_true p11
           replace q11 := eq_true q11
           go_wp2
           go_meet
           case rel => exact ⟨_, (x4_2), (by first | rfl | (simp; done) | (simp [*]; done)), H', ⟨by have := HJ1.out; have := HK2.out; first | omega | exact Nat.le_refl _⟩, by repeat (first | exact Drawn0.refl _ | apply Drawn0.step)⟩
          ·rw [if_neg c12] at H
           have c12b0 : ((bt gx1 x4_2) == 45) = false := beq_eq_false_iff_ne.mpr c12
           have c12b1 : ((bt gx1 x4_2) != 45) = true := bne_iff_ne.mpr c12
           have H' := Aside0.mk H
           clear H
           have p11 : 0 ≤ (x4_2 : Int) := of_decide_eq_true (by first | (with_reducible assumption) | assumption)
           have q11 : x4_2 < (gx1.size : Int) := of_decide_eq_true (by first | (with_reducible assumption) | assumption)
           have hx11 := bt_at gx1 x4_2
           replace p11 := eq_true p11
           replace q11 := eq_true q11
           go_wp2
           go_roundg k2
           case measure => have := HJ1.out; have := HK2.out; omega
           case rel => exact ⟨(wrap64 (x4_2 + 1)), (by first | rfl | (simp; done) | (simp [*]; done)), H', ⟨by have := HJ1.out; have := HK2.out; omega⟩, by repeat (first | exact Drawn0.refl _ | apply Drawn0.step)⟩
         ·rw [if_neg c10] at H
          exact absurd H (by simp)
        ·rw [if_neg c9] at H
         have c9b0 : decide (x4_2 < (gx1.size : Int)) = false := decide_eq_false c9
         clear c9
         (first | rw [c9b0] | (simp only [i64_w, i32_w]; rw [c9b0]) | skip)
         have H' := Aside0.mk H
         clear H
         go_wp2
         go_meet
         case rel => exact ⟨_, (x4_2), (by first | rfl | (simp; done) | (simp [*]; done)), H', ⟨by have := HJ1.out; have := HK2.out; first | omega | exact Nat.le_refl _⟩, by repeat (first | exact Drawn0.refl _ | apply Drawn0.step)⟩
     case rest =>
      clear HC8
      try clear c1
      try clear p1
      try clear q1
      try clear hx1
      try clear p2
      try clear c3
      try clear c3b0
      try clear c3b1
      try clear c4
      try clear c4b0
      try clear c4b1
      try clear c5
      try clear c5b0
      try clear c5b1
      try clear c6
      try clear p6
      try clear c7
      try clear c7b0
      try clear c7b1
      try clear c9
      try clear c9b0
      try clear c10
      try clear c10b0
      try clear p11
      try clear q11
      try clear hx11
      try clear c12
      try clear c12b0
      try clear c12b1
      try clear p11
      try clear p2
      try clear q11
      obtain ⟨kq, x4_7, rfl, HA, HJ7, ⟨mc7, rfl⟩⟩ := hcut
      generalize a0.extract 6 a0.size = gx2 at *
      cases kq with
      | zero => exact absurd HA.out (by simp [lockkeeperref7_Range.j2])
      | succ kj7 =>
       have H := HA.out
       clear HA
       simp only [lockkeeperref7_Range.j2] at H
       by_cases c13 : x4_7 = (gx2.size : Int)
       ·rw [if_pos c13] at H
        have c13b0 : (x4_7 == (gx2.size : Int)) = true := beq_iff_eq.mpr c13
        have c13b1 : (x4_7 != (gx2.size : Int)) = false := bne_eq_false_iff_eq.mpr c13
        clear c13
        obtain rfl := Option.some.inj H
        go_wp2
        go_ret
        exact ⟨by first | rfl | (simp; done) | (simp [*]; done), by repeat (first | exact Drawn0.refl _ | apply Drawn0.step)⟩
       ·rw [if_neg c13] at H
        have c13b0 : (x4_7 == (gx2.size : Int)) = false := beq_eq_false_iff_ne.mpr c13
        have c13b1 : (x4_7 != (gx2.size : Int)) = true := bne_iff_ne.mpr c13
        by_cases c14 : 0 ≤ x4_7
        ·rw [if_pos c14] at H
         have c14b0 := eq_true c14
         have c14b1 : decide (0 ≤ x4_7) = true := decide_eq_true c14
         clear c14
         by_cases c15 : x4_7 ≤ (gx2.size : Int)
         ·rw [if_pos c15] at H
          have c15b0 := eq_true c15
          have c15b1 : decide (x4_7 ≤ (gx2.size : Int)) = true := decide_eq_true c15
          clear c15
          replace H := Option.bind_eq_some_iff.mp H
          obtain ⟨⟨t163, t164⟩, A160, H⟩ := H
          replace H : (if t164 = true then (if (wrap64 (x4_7 + 1)) = (gx2.size : Int) then (some true) else (if 0 ≤ (wrap64 (x4_7 + 1)) then (if (wrap64 (x4_7 + 1)) ≤ (gx2.size : Int) then ((lockkeeperref1_Digits.f kj7 (gx2.extract ((wrap64 (x4_7 + 1)) : Int).toNat gx2.size)).bind fun bt165 => (if bt165.2 = true then (some (decide (bt165.1 ≥ t163))) else (some false))) else (none)) else (none))) else (some false)) = some r := H
          have A16 := Aside0.mk A160
          clear A160
          by_cases c17 : t164 = true
          ·subst c17
           have H1 : (if (wrap64 (x4_7 + 1)) = (gx2.size : Int) then (some true) else (if 0 ≤ (wrap64 (x4_7 + 1)) then (if (wrap64 (x4_7 + 1)) ≤ (gx2.size : Int) then ((lockkeeperref1_Digits.f kj7 (gx2.extract ((wrap64 (x4_7 + 1)) : Int).toNat gx2.size)).bind fun bt165 => (if bt165.2 = true then (some (decide (bt165.1 ≥ t163))) else (some false))) else (none)) else (none))) = some r := by rw [if_pos rfl] at H; exact H
           clear H
           have H := H1
           clear H1
           by_cases c18 : (wrap64 (x4_7 + 1)) = (gx2.size : Int)
           ·rw [if_pos c18] at H
            have c18b0 : ((wrap64 (x4_7 + 1)) == (gx2.size : Int)) = true := beq_iff_eq.mpr c18
            have c18b1 : ((wrap64 (x4_7 + 1)) != (gx2.size : Int)) = false := bne_eq_false_iff_eq.mpr c18
            clear c18
            obtain rfl := Option.some.inj H
            go_wp2_with (first | ((with_reducible refine gate_callee (f := 71) rfl ?_); refine goesL_ (some 39) rfl rfl Try.func71 (by kernel_rfl) rfl #[.string (gx2.extract 0 (x4_7 : Int).toNat)] rfl (by (try simp only [List.map_toArray, List.map_cons, List.map_nil]); first | done | rfl | (simp only [List.length_drop, List.length_take]; rfl)) ?_; (with_reducible refine (lockkeeperref1_Digits.calls kj7 (gx2.extract 0 (x4_7 : Int).toNat) t163 true _ A16.out).mono ?_); rintro e w' ⟨rfl, ⟨nd, rfl⟩⟩; refine ⟨_, rfl, ?_⟩))
            go_ret
            exact ⟨by first | rfl | (simp; done) | (simp [*]; done), by repeat (first | exact Drawn0.refl _ | apply Drawn0.step)⟩
           ·rw [if_neg c18] at H
            have c18b0 : ((wrap64 (x4_7 + 1)) == (gx2.size : Int)) = false := beq_eq_false_iff_ne.mpr c18
            have c18b1 : ((wrap64 (x4_7 + 1)) != (gx2.size : Int)) = true := bne_iff_ne.mpr c18
            obtain ⟨ji19, hji19⟩ : ∃ j_ : Int, (wrap64 (x4_7 + 1)) = j_ := ⟨_, rfl⟩
            replace H : (if 0 ≤ (ji19) then (if (ji19) ≤ (gx2.size : Int) then ((lockkeeperref1_Digits.f kj7 (gx2.extract ((ji19) : Int).toNat gx2.size)).bind fun bt165 => (if bt165.2 = true then (some (decide (bt165.1 ≥ t163))) else (some false))) else (none)) else (none)) = some r := by first | (rw [hji19] at H; exact H) | (simp only [hji19] at H ⊢; exact H)
            (try rw [hji19] at c18b0)
            (try rw [hji19] at c18b1)
            (try rw [hji19] at A16)
            have hji19w : (IntKind.i64.wrap (x4_7 + 1)) = ji19 := (i64_w _).trans hji19
            by_cases c20 : 0 ≤ (ji19)
            ·rw [if_pos c20] at H
             have c20b0 := eq_true c20
             have c20b1 : decide (0 ≤ (ji19)) = true := decide_eq_true c20
             clear c20
             by_cases c21 : (ji19) ≤ (gx2.size : Int)
             ·rw [if_pos c21] at H
              have c21b0 := eq_true c21
              have c21b1 : decide ((ji19) ≤ (gx2.size : Int)) = true := decide_eq_true c21
              clear c21
              replace H := Option.bind_eq_some_iff.mp H
              obtain ⟨⟨t165, t166⟩, A220, H⟩ := H
              replace H : (if t166 = true then (some (decide (t165 ≥ t163))) else (some false)) = some r := H
              have A22 := Aside0.mk A220
              clear A220
              by_cases c23 : t166 = true
              ·subst c23
               have H1 : (some (decide (t165 ≥ t163))) = some r := by rw [if_pos rfl] at H; exact H
               clear H
               have H := H1
               clear H1
               obtain rfl := Option.some.inj H
               go_wp2_with (first | ((with_reducible refine gate_callee (f := 71) rfl ?_); refine goesL_ (some 39) rfl rfl Try.func71 (by kernel_rfl) rfl #[.string (gx2.extract 0 (x4_7 : Int).toNat)] rfl (by (try simp only [List.map_toArray, List.map_cons, List.map_nil]); first | done | rfl | (simp only [List.length_drop, List.length_take]; rfl)) ?_; (with_reducible refine (lockkeeperref1_Digits.calls kj7 (gx2.extract 0 (x4_7 : Int).toNat) t163 true _ A16.out).mono ?_); rintro e w' ⟨rfl, ⟨nd, rfl⟩⟩; refine ⟨_, rfl, ?_⟩) | ((with_reducible refine gate_callee (f := 71) rfl ?_); refine goesL_ (some 54) rfl rfl Try.func71 (by kernel_rfl) rfl #[.string (gx2.extract ((ji19) : Int).toNat gx2.size)] rfl (by (try simp only [List.map_toArray, List.map_cons, List.map_nil]); first | done | (simp only [hji19]; rfl) | rfl | (simp only [List.length_drop, List.length_take]; rfl)) ?_; (with_reducible refine (lockkeeperref1_Digits.calls kj7 (gx2.extract ((ji19) : Int).toNat gx2.size) t165 true _ A22.out).mono ?_); rintro e w' ⟨rfl, ⟨nd, rfl⟩⟩; refine ⟨_, rfl, ?_⟩))
               go_ret
               exact ⟨by first | rfl | (simp; done) | (simp only [← hji19] <;> (first | rfl | simp)) | (simp [*]; done), by repeat (first | exact Drawn0.refl _ | apply Drawn0.step)⟩
              ·replace c23 := Bool.eq_false_iff.mpr c23
               subst c23
               have H1 : (some false) = some r := by rw [if_neg (show ¬ (false = true) by decide)] at H; exact H
               clear H
               have H := H1
               clear H1
               obtain rfl := Option.some.inj H
               go_wp2_with (first | ((with_reducible refine gate_callee (f := 71) rfl ?_); refine goesL_ (some 39) rfl rfl Try.func71 (by kernel_rfl) rfl #[.string (gx2.extract 0 (x4_7 : Int).toNat)] rfl (by (try simp only [List.map_toArray, List.map_cons, List.map_nil]); first | done | rfl | (simp only [List.length_drop, List.length_take]; rfl)) ?_; (with_reducible refine (lockkeeperref1_Digits.calls kj7 (gx2.extract 0 (x4_7 : Int).toNat) t163 true _ A16.out).mono ?_); rintro e w' ⟨rfl, ⟨nd, rfl⟩⟩; refine ⟨_, rfl, ?_⟩) | ((with_reducible refine gate_callee (f := 71) rfl ?_); refine goesL_ (some 54) rfl rfl Try.func71 (by kernel_rfl) rfl #[.string (gx2.extract ((ji19) : Int).toNat gx2.size)] rfl (by (try simp only [List.map_toArray, List.map_cons, List.map_nil]); first | done | (simp only [hji19]; rfl) | rfl | (simp only [List.length_drop, List.length_take]; rfl)) ?_; (with_reducible refine (lockkeeperref1_Digits.calls kj7 (gx2.extract ((ji19) : Int).toNat gx2.size) t165 false _ A22.out).mono ?_); rintro e w' ⟨rfl, ⟨nd, rfl⟩⟩; refine ⟨_, rfl, ?_⟩))
               go_ret
               exact ⟨by first | rfl | (simp; done) | (simp only [← hji19] <;> (first | rfl | simp)) | (simp [*]; done), by repeat (first | exact Drawn0.refl _ | apply Drawn0.step)⟩
             ·rw [if_neg c21] at H
              exact absurd H (by simp)
            ·rw [if_neg c20] at H
             exact absurd H (by simp)
          ·replace c17 := Bool.eq_false_iff.mpr c17
           subst c17
           have H1 : (some false) = some r := by rw [if_neg (show ¬ (false = true) by decide)] at H; exact H
           clear H
           have H := H1
           clear H1
           obtain rfl := Option.some.inj H
           go_wp2_with (first | ((with_reducible refine gate_callee (f := 71) rfl ?_); refine goesL_ (some 39) rfl rfl Try.func71 (by kernel_rfl) rfl #[.string (gx2.extract 0 (x4_7 : Int).toNat)] rfl (by (try simp only [List.map_toArray, List.map_cons, List.map_nil]); first | done | rfl | (simp only [List.length_drop, List.length_take]; rfl)) ?_; (with_reducible refine (lockkeeperref1_Digits.calls kj7 (gx2.extract 0 (x4_7 : Int).toNat) t163 false _ A16.out).mono ?_); rintro e w' ⟨rfl, ⟨nd, rfl⟩⟩; refine ⟨_, rfl, ?_⟩))
           go_ret
           exact ⟨by first | rfl | (simp; done) | (simp [*]; done), by repeat (first | exact Drawn0.refl _ | apply Drawn0.step)⟩
         ·rw [if_neg c15] at H
          exact absurd H (by simp)
        ·rw [if_neg c14] at H
         exact absurd H (by simp)
    ·rw [if_neg c7] at H
     exact absurd H (by simp)

end Go.Proofs.Ytojcceafgkdchaa.Pr
