-- Made by a program of this session (wip/xp/xp.py), over the print's words.
import Derived.Test.YtbfbidifodcedaaDoorPr0
import Derived.Test.YtbfbidifodcedaaDoorPr5
import Derived.Test.YtbfbidifodcedaaDoorPr11
import Derived.Test.YtbfbidifodcedaaDoorPr13
import Derived.Test.YtbfbidifodcedaaDoorG0
import Derived.Test.YtbfbidifodcedaaDoorG5
namespace Go.Proofs.YtbfbidifodcedaaDoor.Pr
open Go.RowKit Go.Proofs.YtbfbidifodcedaaDoorW.PrintWords Go.Proofs.YtbfbidifodcedaaDoorW.PrintLast Go.Proofs.YtbfbidifodcedaaDoorW.PrintMore
attribute [local go_sem] max2_int min2_int max_two min_two max_three min_three max_four min_four   -- for this text's walks alone
set_option linter.unusedVariables false
set_option linter.unusedSimpArgs false

/-! ### lockkeeperlaw4_TargetUps: function 15 -/
mutual
def lockkeeperlaw4_TargetUps.l0 : Nat → List Int → Int → ByteArray → ByteArray → Int → Option (Bool)
 | 0, _, _, _, _, _ => none
 | k + 1, x0, x5, x6, x7, x8 => if x8 < (x0.length : Int) then (if 0 ≤ x8 then ((lockkeeperlaw0_Low.f (rd x0 x8) 4).bind fun t219 => (if 0 ≤ t219 then (if t219 < 4 then (if (rdOf ByteArray.empty ([(⟨#[97]⟩ : ByteArray), (⟨#[98, 99]⟩ : ByteArray), (⟨#[46, 46, 46]⟩ : ByteArray), (⟨#[37, 52, 49]⟩ : ByteArray)] : List ByteArray) t219).size + 1 ≤ 9223372036854775807 then (if x6.size + ((rdOf ByteArray.empty ([(⟨#[97]⟩ : ByteArray), (⟨#[98, 99]⟩ : ByteArray), (⟨#[46, 46, 46]⟩ : ByteArray), (⟨#[37, 52, 49]⟩ : ByteArray)] : List ByteArray) t219) ++ (⟨#[47]⟩ : ByteArray)).size ≤ 9223372036854775807 then (if x8 < (wrap64 ((x0.length : Int) - x5)) then (if x7.size + ((rdOf ByteArray.empty ([(⟨#[97]⟩ : ByteArray), (⟨#[98, 99]⟩ : ByteArray), (⟨#[46, 46, 46]⟩ : ByteArray), (⟨#[37, 52, 49]⟩ : ByteArray)] : List ByteArray) t219) ++ (⟨#[47]⟩ : ByteArray)).size ≤ 9223372036854775807 then (lockkeeperlaw4_TargetUps.l0 k x0 x5 (x6 ++ ((rdOf ByteArray.empty ([(⟨#[97]⟩ : ByteArray), (⟨#[98, 99]⟩ : ByteArray), (⟨#[46, 46, 46]⟩ : ByteArray), (⟨#[37, 52, 49]⟩ : ByteArray)] : List ByteArray) t219) ++ (⟨#[47]⟩ : ByteArray))) (x7 ++ ((rdOf ByteArray.empty ([(⟨#[97]⟩ : ByteArray), (⟨#[98, 99]⟩ : ByteArray), (⟨#[46, 46, 46]⟩ : ByteArray), (⟨#[37, 52, 49]⟩ : ByteArray)] : List ByteArray) t219) ++ (⟨#[47]⟩ : ByteArray))) (wrap64 (x8 + 1))) else (none)) else (lockkeeperlaw4_TargetUps.l0 k x0 x5 (x6 ++ ((rdOf ByteArray.empty ([(⟨#[97]⟩ : ByteArray), (⟨#[98, 99]⟩ : ByteArray), (⟨#[46, 46, 46]⟩ : ByteArray), (⟨#[37, 52, 49]⟩ : ByteArray)] : List ByteArray) t219) ++ (⟨#[47]⟩ : ByteArray))) x7 (wrap64 (x8 + 1)))) else (none)) else (none)) else (none)) else (none))) else (none)) else (lockkeeperlaw4_TargetUps.l1 k x5 x6 x7 0)
def lockkeeperlaw4_TargetUps.l1 : Nat → Int → ByteArray → ByteArray → Int → Option (Bool)
 | 0, _, _, _, _ => none
 | k + 1, x5, x6, x7, x10 => if x10 < x5 then (if 0 ≤ (Int.tmod x10 3) then (if (Int.tmod x10 3) < 3 then (if x6.size + (rdOf ByteArray.empty ([(⟨#[46, 46, 47]⟩ : ByteArray), (⟨#[46, 37, 50, 101, 47]⟩ : ByteArray), (⟨#[37, 50, 69, 46, 47]⟩ : ByteArray)] : List ByteArray) (Int.tmod x10 3)).size ≤ 9223372036854775807 then (lockkeeperlaw4_TargetUps.l1 k x5 (x6 ++ (rdOf ByteArray.empty ([(⟨#[46, 46, 47]⟩ : ByteArray), (⟨#[46, 37, 50, 101, 47]⟩ : ByteArray), (⟨#[37, 50, 69, 46, 47]⟩ : ByteArray)] : List ByteArray) (Int.tmod x10 3))) x7 (wrap64 (x10 + 1))) else (none)) else (none)) else (none)) else ((target_Clean.f k x6).bind fun t220 => (if t220.toList = x7.toList then ((lockkeeperlaw4_awake.f k).bind fun t221 => (some t221)) else (some false)))
end
def lockkeeperlaw4_TargetUps.f (k : Nat) (l0 : List Int) (a1 : Int) : Option (Bool) := if (l0.length : Int) > 30 then ((lockkeeperlaw4_awake.f k).bind fun t216 => (some t216)) else ((lockkeeperlaw0_Low.f a1 41).bind fun t217 => (lockkeeperlaw4_TargetUps.l0 k l0 t217 (⟨#[47]⟩ : ByteArray) (⟨#[47]⟩ : ByteArray) 0))
theorem lockkeeperlaw4_TargetUps.mono_l : ∀ k, (∀ y0 y1 y2 y3 y4, LeO (lockkeeperlaw4_TargetUps.l0 k y0 y1 y2 y3 y4) (lockkeeperlaw4_TargetUps.l0 (k + 1) y0 y1 y2 y3 y4)) ∧ (∀ y0 y1 y2 y3, LeO (lockkeeperlaw4_TargetUps.l1 k y0 y1 y2 y3) (lockkeeperlaw4_TargetUps.l1 (k + 1) y0 y1 y2 y3))
 | 0 => ⟨fun _ _ _ _ _ r h => by simp [lockkeeperlaw4_TargetUps.l0] at h, fun _ _ _ _ r h => by simp [lockkeeperlaw4_TargetUps.l1] at h⟩
 | k + 1 => by
  obtain ⟨ih0, ih1⟩ := lockkeeperlaw4_TargetUps.mono_l k
  refine ⟨?_, ?_⟩
  ·intro y0 y1 y2 y3 y4
   unfold lockkeeperlaw4_TargetUps.l0
   repeat' first
   | (with_reducible exact ih0 _ _ _ _ _)
   | (with_reducible exact ih1 _ _ _ _)
   | (with_reducible exact lockkeeperlaw4_awake.mono _)
   | (with_reducible exact target_Clean.mono _ _)
   | (with_reducible exact LeO.refl _)
   | (with_reducible exact LeO.none _)
   | (with_reducible refine LeO.ite ?_ ?_)
   | (with_reducible refine LeO.bind ?_ (fun _ => ?_))
   | exact ih0 _ _ _ _ _
   | exact ih1 _ _ _ _
   | exact lockkeeperlaw4_awake.mono _
   | exact target_Clean.mono _ _
   | exact LeO.none _
   | refine LeO.ite ?_ ?_
   | refine LeO.bind ?_ (fun _ => ?_)
  ·intro y0 y1 y2 y3
   unfold lockkeeperlaw4_TargetUps.l1
   repeat' first
   | (with_reducible exact ih0 _ _ _ _ _)
   | (with_reducible exact ih1 _ _ _ _)
   | (with_reducible exact lockkeeperlaw4_awake.mono _)
   | (with_reducible exact target_Clean.mono _ _)
   | (with_reducible exact LeO.refl _)
   | (with_reducible exact LeO.none _)
   | (with_reducible refine LeO.ite ?_ ?_)
   | (with_reducible refine LeO.bind ?_ (fun _ => ?_))
   | exact ih0 _ _ _ _ _
   | exact ih1 _ _ _ _
   | exact lockkeeperlaw4_awake.mono _
   | exact target_Clean.mono _ _
   | exact LeO.none _
   | refine LeO.ite ?_ ?_
   | refine LeO.bind ?_ (fun _ => ?_)
theorem lockkeeperlaw4_TargetUps.mono : ∀ a0 a1 k, LeO (lockkeeperlaw4_TargetUps.f k a0 a1) (lockkeeperlaw4_TargetUps.f (k + 1) a0 a1) := by
 intro a0 a1 k
 obtain ⟨ih0, ih1⟩ := lockkeeperlaw4_TargetUps.mono_l k
 unfold lockkeeperlaw4_TargetUps.f
 repeat' first
   | (with_reducible exact ih0 _ _ _ _ _)
   | (with_reducible exact ih1 _ _ _ _)
   | (with_reducible exact lockkeeperlaw4_awake.mono _)
   | (with_reducible exact target_Clean.mono _ _)
   | (with_reducible exact LeO.refl _)
   | (with_reducible exact LeO.none _)
   | (with_reducible refine LeO.ite ?_ ?_)
   | (with_reducible refine LeO.bind ?_ (fun _ => ?_))
   | exact ih0 _ _ _ _ _
   | exact ih1 _ _ _ _
   | exact lockkeeperlaw4_awake.mono _
   | exact target_Clean.mono _ _
   | exact LeO.none _
   | refine LeO.ite ?_ ?_
   | refine LeO.bind ?_ (fun _ => ?_)
set_option maxHeartbeats 8000000 in
set_option maxRecDepth 100000 in
theorem lockkeeperlaw4_TargetUps.calls (k : Nat) (A0 : Option Addr) (c0 : Nat) (l0 : List Int) (a1 : Int) (r : Bool) (w : World) (hr0 : Kd.C (Kd.int .i64) w A0 l0.length l0) (hc0 : l0.length ≤ c0) (hM_ : Aside0 (LaidW w)) (hr_ : r = true) (h : lockkeeperlaw4_TargetUps.f k l0 a1 = some r) :
  Calls Tryd.prog 15 #[.slice A0 l0.length c0, .int .i64 a1] w fun e w' => e = .returned (.bool r) ∧ Below w.heap.size w w' := by
 have HR0 := Aside0.mk hr0
 have HC0 := Aside0.mk hc0
 clear hr0 hc0
 have HB := Aside0.mk (Below.refl w.heap.size w)
 have H : (if (l0.length : Int) > 30 then ((lockkeeperlaw4_awake.f k).bind fun t216 => (some t216)) else ((lockkeeperlaw0_Low.f a1 41).bind fun t217 => (lockkeeperlaw4_TargetUps.l0 k l0 t217 (⟨#[47]⟩ : ByteArray) (⟨#[47]⟩ : ByteArray) 0))) = some r := h
 clear h
 by_cases c3 : (l0.length : Int) > 30
 ·rw [if_pos c3] at H
  have c3b0 : decide (30 < (l0.length : Int)) = true := decide_eq_true c3
  have c3b1 : decide (30 < l0.length) = true := decide_eq_true (by omega)
  clear c3
  replace H := Option.bind_eq_some_iff.mp H
  obtain ⟨t216, A40, H⟩ := H
  replace H : (some t216) = some r := H
  have A4 := Aside0.mk A40
  clear A40
  clear hr_
  obtain rfl := Option.some.inj H
  go_enter Tryd.func15, Tryd.ntmps15
  go_wp2_with (first | ((with_reducible refine gate_callee (f := 33) rfl ?_); refine goesL_ (some 14) rfl rfl Tryd.func33 (by kernel_rfl) rfl #[] rfl (by (try simp only [List.map_toArray, List.map_cons, List.map_nil]); first | done | rfl | (simp only [List.length_drop, List.length_take]; rfl)) ?_; (with_reducible refine (lockkeeperlaw4_awake.calls k  t216 _ ?side1 A4.out).mono ?_); (case side1 => exact ⟨by repeat (first | (with_reducible exact hM_.out) | (with_reducible exact LaidW.below hM_.out HB.out) | (with_reducible refine LaidW.alloc ?_ _) | (with_reducible refine LaidW.drewN ?_ _) | (with_reducible refine LaidW.drew ?_) | exact LaidW.below hM_.out (by repeat (first | (with_reducible first | exact HB.out | apply below_alloc | apply pw_below_drewN | apply below_drew1) | exact HB.out)))⟩); rintro e w5 ⟨rfl, hb⟩; refine ⟨_, rfl, ?_⟩; have n0_ := Aside0.mk (below_step (by repeat (first | (with_reducible first | exact HB.out | apply below_alloc | apply pw_below_drewN | apply below_drew1) | exact HB.out)) hb); clear HB; have HB := n0_; clear n0_; (try clear hb); (try clear hb2); (try clear hk); (try clear hi)))
  go_ret
  exact ⟨by first | rfl | (simp [errW_none, errW_some] <;> rfl) | (simp [*, errW_none, errW_some] <;> rfl), by repeat (first | (with_reducible first | exact HB.out | apply below_alloc | apply pw_below_drewN | apply below_drew1) | exact HB.out)⟩
 ·rw [if_neg c3] at H
  have c3b0 : decide (30 < (l0.length : Int)) = false := decide_eq_false c3
  have c3b1 : decide (30 < l0.length) = false := decide_eq_false (by omega)
  clear c3
  replace H := Option.bind_eq_some_iff.mp H
  obtain ⟨t217, A60, H⟩ := H
  replace H : (lockkeeperlaw4_TargetUps.l0 k l0 t217 (⟨#[47]⟩ : ByteArray) (⟨#[47]⟩ : ByteArray) 0) = some r := H
  have A6 := Aside0.mk A60
  clear A60
  have H' := Aside0.mk H
  clear H
  go_enter Tryd.func15, Tryd.ntmps15
  go_wp2_with (first | ((with_reducible refine gate_callee (f := 30) rfl ?_); refine goesL_ (some 16) rfl rfl Tryd.func30 (by kernel_rfl) rfl #[.int .i64 a1, .int .i64 41] rfl (by (try simp only [List.map_toArray, List.map_cons, List.map_nil]); first | done | rfl | (simp only [List.length_drop, List.length_take]; rfl)) ?_; (with_reducible refine (lockkeeperlaw0_Low.calls a1 41 t217 _ A6.out).mono ?_); rintro e w' ⟨rfl, ⟨nd, rfl⟩⟩; refine ⟨_, rfl, ?_⟩))
  go_loopg [6, 7, 8] k (fun kq v6 v7 v8 w' => ∃ (x6_1 : ByteArray) (x7_1 : ByteArray) (x8_1 : Int), v6 = .string x6_1 ∧ v7 = .string x7_1 ∧ v8 = .int .i64 x8_1 ∧ Aside0 (lockkeeperlaw4_TargetUps.l0 kq l0 t217 x6_1 x7_1 x8_1 = some r) ∧ Aside0 (kq ≤ k) ∧ Aside0 (Below w.heap.size w w'))
  case atStart => exact ⟨((⟨#[47]⟩ : ByteArray)), ((⟨#[47]⟩ : ByteArray)), (0), (by first | rfl | (simp; done) | (simp [*]; done)), (by first | rfl | (simp; done) | (simp [*]; done)), (by first | rfl | (simp; done) | (simp [*]; done)), H', ⟨Nat.le_refl _⟩, ⟨by repeat (first | (with_reducible first | exact HB.out | apply below_alloc | apply pw_below_drewN | apply below_drew1) | exact HB.out)⟩⟩
  case round =>
   clear H'
   try clear c1
   try clear p2
   try clear c3
   try clear c3b0
   try clear c3b1
   obtain ⟨x6_1, x7_1, x8_1, rfl, rfl, rfl, HA, HK1, HB⟩ := hrel
   cases gk with
   | zero => exact absurd HA.out (by simp [lockkeeperlaw4_TargetUps.l0])
   | succ k1 =>
    have H := HA.out
    clear HA
    simp only [lockkeeperlaw4_TargetUps.l0] at H
    by_cases c7 : x8_1 < (l0.length : Int)
    ·rw [if_pos c7] at H
     have c7b0 : decide (x8_1 < (l0.length : Int)) = true := decide_eq_true c7
     clear c7
     by_cases c8 : 0 ≤ x8_1
     ·rw [if_pos c8] at H
      have c8b0 : decide (0 ≤ x8_1) = true := decide_eq_true c8
      clear c8
      replace H := Option.bind_eq_some_iff.mp H
      obtain ⟨t219, A90, H⟩ := H
      replace H : (if 0 ≤ t219 then (if t219 < 4 then (if (rdOf ByteArray.empty ([(⟨#[97]⟩ : ByteArray), (⟨#[98, 99]⟩ : ByteArray), (⟨#[46, 46, 46]⟩ : ByteArray), (⟨#[37, 52, 49]⟩ : ByteArray)] : List ByteArray) t219).size + 1 ≤ 9223372036854775807 then (if x6_1.size + ((rdOf ByteArray.empty ([(⟨#[97]⟩ : ByteArray), (⟨#[98, 99]⟩ : ByteArray), (⟨#[46, 46, 46]⟩ : ByteArray), (⟨#[37, 52, 49]⟩ : ByteArray)] : List ByteArray) t219) ++ (⟨#[47]⟩ : ByteArray)).size ≤ 9223372036854775807 then (if x8_1 < (wrap64 ((l0.length : Int) - t217)) then (if x7_1.size + ((rdOf ByteArray.empty ([(⟨#[97]⟩ : ByteArray), (⟨#[98, 99]⟩ : ByteArray), (⟨#[46, 46, 46]⟩ : ByteArray), (⟨#[37, 52, 49]⟩ : ByteArray)] : List ByteArray) t219) ++ (⟨#[47]⟩ : ByteArray)).size ≤ 9223372036854775807 then (lockkeeperlaw4_TargetUps.l0 k1 l0 t217 (x6_1 ++ ((rdOf ByteArray.empty ([(⟨#[97]⟩ : ByteArray), (⟨#[98, 99]⟩ : ByteArray), (⟨#[46, 46, 46]⟩ : ByteArray), (⟨#[37, 52, 49]⟩ : ByteArray)] : List ByteArray) t219) ++ (⟨#[47]⟩ : ByteArray))) (x7_1 ++ ((rdOf ByteArray.empty ([(⟨#[97]⟩ : ByteArray), (⟨#[98, 99]⟩ : ByteArray), (⟨#[46, 46, 46]⟩ : ByteArray), (⟨#[37, 52, 49]⟩ : ByteArray)] : List ByteArray) t219) ++ (⟨#[47]⟩ : ByteArray))) (wrap64 (x8_1 + 1))) else (none)) else (lockkeeperlaw4_TargetUps.l0 k1 l0 t217 (x6_1 ++ ((rdOf ByteArray.empty ([(⟨#[97]⟩ : ByteArray), (⟨#[98, 99]⟩ : ByteArray), (⟨#[46, 46, 46]⟩ : ByteArray), (⟨#[37, 52, 49]⟩ : ByteArray)] : List ByteArray) t219) ++ (⟨#[47]⟩ : ByteArray))) x7_1 (wrap64 (x8_1 + 1)))) else (none)) else (none)) else (none)) else (none)) = some r := H
      have A9 := Aside0.mk A90
      clear A90
      by_cases c10 : 0 ≤ t219
      ·rw [if_pos c10] at H
       have c10b0 : decide (0 ≤ t219) = true := decide_eq_true c10
       clear c10
       by_cases c11 : t219 < 4
       ·rw [if_pos c11] at H
        have c11b0 : decide (t219 < 4) = true := decide_eq_true c11
        clear c11
        by_cases c13 : (rdOf ByteArray.empty ([(⟨#[97]⟩ : ByteArray), (⟨#[98, 99]⟩ : ByteArray), (⟨#[46, 46, 46]⟩ : ByteArray), (⟨#[37, 52, 49]⟩ : ByteArray)] : List ByteArray) t219).size + 1 ≤ 9223372036854775807
        ·rw [if_pos c13] at H
         have c13b0 := eq_true c13
         have c13b1 : decide ((rdOf ByteArray.empty ([(⟨#[97]⟩ : ByteArray), (⟨#[98, 99]⟩ : ByteArray), (⟨#[46, 46, 46]⟩ : ByteArray), (⟨#[37, 52, 49]⟩ : ByteArray)] : List ByteArray) t219).size + 1 ≤ 9223372036854775807) = true := decide_eq_true c13
         try have c13b2 : (9223372036854775807 < (rdOf ByteArray.empty ([(⟨#[97]⟩ : ByteArray), (⟨#[98, 99]⟩ : ByteArray), (⟨#[46, 46, 46]⟩ : ByteArray), (⟨#[37, 52, 49]⟩ : ByteArray)] : List ByteArray) t219).size + 1) = False := eq_false (Nat.not_lt.2 c13)
         by_cases c14 : x6_1.size + ((rdOf ByteArray.empty ([(⟨#[97]⟩ : ByteArray), (⟨#[98, 99]⟩ : ByteArray), (⟨#[46, 46, 46]⟩ : ByteArray), (⟨#[37, 52, 49]⟩ : ByteArray)] : List ByteArray) t219) ++ (⟨#[47]⟩ : ByteArray)).size ≤ 9223372036854775807
         ·rw [if_pos c14] at H
          try (have c14b5 := c14; simp only [ByteArray.size_append, Int.natCast_add] at c14b5)
          have c14b0 := eq_true c14
          have c14b1 : decide (x6_1.size + ((rdOf ByteArray.empty ([(⟨#[97]⟩ : ByteArray), (⟨#[98, 99]⟩ : ByteArray), (⟨#[46, 46, 46]⟩ : ByteArray), (⟨#[37, 52, 49]⟩ : ByteArray)] : List ByteArray) t219) ++ (⟨#[47]⟩ : ByteArray)).size ≤ 9223372036854775807) = true := decide_eq_true c14
          try have c14b2 : (9223372036854775807 < x6_1.size + ((rdOf ByteArray.empty ([(⟨#[97]⟩ : ByteArray), (⟨#[98, 99]⟩ : ByteArray), (⟨#[46, 46, 46]⟩ : ByteArray), (⟨#[37, 52, 49]⟩ : ByteArray)] : List ByteArray) t219) ++ (⟨#[47]⟩ : ByteArray)).size) = False := eq_false (Nat.not_lt.2 c14)
          try have c14b3 : (9223372036854775807 < x6_1.size + ((rdOf ByteArray.empty ([(⟨#[97]⟩ : ByteArray), (⟨#[98, 99]⟩ : ByteArray), (⟨#[46, 46, 46]⟩ : ByteArray), (⟨#[37, 52, 49]⟩ : ByteArray)] : List ByteArray) t219).size + 1)) = False := eq_false (Nat.not_lt.2 (by have z_ := c14; simp only [ByteArray.size_append] at z_; first | exact z_ | simpa using z_))
          by_cases c15 : x8_1 < (wrap64 ((l0.length : Int) - t217))
          ·rw [if_pos c15] at H
           have c15b0 : decide (x8_1 < (wrap64 ((l0.length : Int) - t217))) = true := decide_eq_true c15
           clear c15
           by_cases c16 : x7_1.size + ((rdOf ByteArray.empty ([(⟨#[97]⟩ : ByteArray), (⟨#[98, 99]⟩ : ByteArray), (⟨#[46, 46, 46]⟩ : ByteArray), (⟨#[37, 52, 49]⟩ : ByteArray)] : List ByteArray) t219) ++ (⟨#[47]⟩ : ByteArray)).size ≤ 9223372036854775807
           ·rw [if_pos c16] at H
            try (have c16b5 := c16; simp only [ByteArray.size_append, Int.natCast_add] at c16b5)
            have c16b0 := eq_true c16
            have c16b1 : decide (x7_1.size + ((rdOf ByteArray.empty ([(⟨#[97]⟩ : ByteArray), (⟨#[98, 99]⟩ : ByteArray), (⟨#[46, 46, 46]⟩ : ByteArray), (⟨#[37, 52, 49]⟩ : ByteArray)] : List ByteArray) t219) ++ (⟨#[47]⟩ : ByteArray)).size ≤ 9223372036854775807) = true := decide_eq_true c16
            try have c16b2 : (9223372036854775807 < x7_1.size + ((rdOf ByteArray.empty ([(⟨#[97]⟩ : ByteArray), (⟨#[98, 99]⟩ : ByteArray), (⟨#[46, 46, 46]⟩ : ByteArray), (⟨#[37, 52, 49]⟩ : ByteArray)] : List ByteArray) t219) ++ (⟨#[47]⟩ : ByteArray)).size) = False := eq_false (Nat.not_lt.2 c16)
            try have c16b3 : (9223372036854775807 < x7_1.size + ((rdOf ByteArray.empty ([(⟨#[97]⟩ : ByteArray), (⟨#[98, 99]⟩ : ByteArray), (⟨#[46, 46, 46]⟩ : ByteArray), (⟨#[37, 52, 49]⟩ : ByteArray)] : List ByteArray) t219).size + 1)) = False := eq_false (Nat.not_lt.2 (by have z_ := c16; simp only [ByteArray.size_append] at z_; first | exact z_ | simpa using z_))
            have H' := Aside0.mk H
            clear H
            have p218 : 0 ≤ (x8_1 : Int) := of_decide_eq_true (by first | (with_reducible assumption) | assumption)
            have q218 : x8_1 < (l0.length : Int) := of_decide_eq_true (by first | (with_reducible assumption) | assumption)
            obtain ⟨ad218, e218, hx218_0⟩ := Kd.at_int HR0.out x8_1 p218 q218
            cases e218
            replace hx218_0 := (HB.out.cell (World.block_lt_of_cell? w _ hx218_0)).trans hx218_0
            replace p218 := eq_true p218
            replace q218 := eq_true q218
            go_wp2_with (first | ((with_reducible refine gate_callee (f := 30) rfl ?_); refine goesL_ (some 28) rfl rfl Tryd.func30 (by kernel_rfl) rfl #[.int .i64 (rd l0 x8_1), .int .i64 4] rfl (by (try simp only [List.map_toArray, List.map_cons, List.map_nil]); first | done | rfl | (simp only [List.length_drop, List.length_take]; rfl)) ?_; (with_reducible refine (lockkeeperlaw0_Low.calls (rd l0 x8_1) 4 t219 _ A9.out).mono ?_); rintro e w' ⟨rfl, ⟨nd, rfl⟩⟩; refine ⟨_, rfl, ?_⟩; have hx12 := XA.arr_at (P := Tryd.prog) (t := 56) (e := 9) 4 ([(⟨#[97]⟩ : ByteArray), (⟨#[98, 99]⟩ : ByteArray), (⟨#[46, 46, 46]⟩ : ByteArray), (⟨#[37, 52, 49]⟩ : ByteArray)] : List ByteArray) Tryd.underlying56 Tryd.underlying9 (by kernel_rfl) rfl #[Value.string (⟨#[97]⟩ : ByteArray), Value.string (⟨#[98, 99]⟩ : ByteArray), Value.string (⟨#[46, 46, 46]⟩ : ByteArray), Value.string (⟨#[37, 52, 49]⟩ : ByteArray)] rfl (t219 : Int) (of_decide_eq_true (by first | (with_reducible assumption) | assumption)) (of_decide_eq_true (by first | (with_reducible assumption) | assumption))))
            go_roundg k1
            case measure => have := HK1.out; omega
            case rel => exact ⟨(x6_1 ++ ((rdOf ByteArray.empty ([(⟨#[97]⟩ : ByteArray), (⟨#[98, 99]⟩ : ByteArray), (⟨#[46, 46, 46]⟩ : ByteArray), (⟨#[37, 52, 49]⟩ : ByteArray)] : List ByteArray) t219) ++ (⟨#[47]⟩ : ByteArray))), (x7_1 ++ ((rdOf ByteArray.empty ([(⟨#[97]⟩ : ByteArray), (⟨#[98, 99]⟩ : ByteArray), (⟨#[46, 46, 46]⟩ : ByteArray), (⟨#[37, 52, 49]⟩ : ByteArray)] : List ByteArray) t219) ++ (⟨#[47]⟩ : ByteArray))), (wrap64 (x8_1 + 1)), (by first | rfl | (simp; done) | (simp [*]; done)), (by first | rfl | (simp; done) | (simp [*]; done)), (by first | rfl | (simp; done) | (simp [*]; done)), H', ⟨by have := HK1.out; omega⟩, ⟨by repeat (first | (with_reducible first | exact HB.out | apply below_alloc | apply pw_below_drewN | apply below_drew1) | exact HB.out)⟩⟩
           ·rw [if_neg c16] at H
            exact absurd H (by simp)
          ·rw [if_neg c15] at H
           have c15b0 : decide (x8_1 < (wrap64 ((l0.length : Int) - t217))) = false := decide_eq_false c15
           clear c15
           have H' := Aside0.mk H
           clear H
           have p218 : 0 ≤ (x8_1 : Int) := of_decide_eq_true (by first | (with_reducible assumption) | assumption)
           have q218 : x8_1 < (l0.length : Int) := of_decide_eq_true (by first | (with_reducible assumption) | assumption)
           obtain ⟨ad218, e218, hx218_0⟩ := Kd.at_int HR0.out x8_1 p218 q218
           cases e218
           replace hx218_0 := (HB.out.cell (World.block_lt_of_cell? w _ hx218_0)).trans hx218_0
           replace p218 := eq_true p218
           replace q218 := eq_true q218
           go_wp2_with (first | ((with_reducible refine gate_callee (f := 30) rfl ?_); refine goesL_ (some 28) rfl rfl Tryd.func30 (by kernel_rfl) rfl #[.int .i64 (rd l0 x8_1), .int .i64 4] rfl (by (try simp only [List.map_toArray, List.map_cons, List.map_nil]); first | done | rfl | (simp only [List.length_drop, List.length_take]; rfl)) ?_; (with_reducible refine (lockkeeperlaw0_Low.calls (rd l0 x8_1) 4 t219 _ A9.out).mono ?_); rintro e w' ⟨rfl, ⟨nd, rfl⟩⟩; refine ⟨_, rfl, ?_⟩; have hx12 := XA.arr_at (P := Tryd.prog) (t := 56) (e := 9) 4 ([(⟨#[97]⟩ : ByteArray), (⟨#[98, 99]⟩ : ByteArray), (⟨#[46, 46, 46]⟩ : ByteArray), (⟨#[37, 52, 49]⟩ : ByteArray)] : List ByteArray) Tryd.underlying56 Tryd.underlying9 (by kernel_rfl) rfl #[Value.string (⟨#[97]⟩ : ByteArray), Value.string (⟨#[98, 99]⟩ : ByteArray), Value.string (⟨#[46, 46, 46]⟩ : ByteArray), Value.string (⟨#[37, 52, 49]⟩ : ByteArray)] rfl (t219 : Int) (of_decide_eq_true (by first | (with_reducible assumption) | assumption)) (of_decide_eq_true (by first | (with_reducible assumption) | assumption))))
           go_roundg k1
           case measure => have := HK1.out; omega
           case rel => exact ⟨(x6_1 ++ ((rdOf ByteArray.empty ([(⟨#[97]⟩ : ByteArray), (⟨#[98, 99]⟩ : ByteArray), (⟨#[46, 46, 46]⟩ : ByteArray), (⟨#[37, 52, 49]⟩ : ByteArray)] : List ByteArray) t219) ++ (⟨#[47]⟩ : ByteArray))), (x7_1), (wrap64 (x8_1 + 1)), (by first | rfl | (simp; done) | (simp [*]; done)), (by first | rfl | (simp; done) | (simp [*]; done)), (by first | rfl | (simp; done) | (simp [*]; done)), H', ⟨by have := HK1.out; omega⟩, ⟨by repeat (first | (with_reducible first | exact HB.out | apply below_alloc | apply pw_below_drewN | apply below_drew1) | exact HB.out)⟩⟩
         ·rw [if_neg c14] at H
          exact absurd H (by simp)
        ·rw [if_neg c13] at H
         exact absurd H (by simp)
       ·rw [if_neg c11] at H
        exact absurd H (by simp)
      ·rw [if_neg c10] at H
       exact absurd H (by simp)
     ·rw [if_neg c8] at H
      exact absurd H (by simp)
    ·rw [if_neg c7] at H
     have c7b0 : decide (x8_1 < (l0.length : Int)) = false := decide_eq_false c7
     clear c7
     have H' := Aside0.mk H
     clear H
     go_wp2
     go_loopg [6, 10] k1 (fun kq v6 v10 w' => ∃ (x6_2 : ByteArray) (x10_2 : Int), v6 = .string x6_2 ∧ v10 = .int .i64 x10_2 ∧ Aside0 (lockkeeperlaw4_TargetUps.l1 kq t217 x6_2 x7_1 x10_2 = some r) ∧ Aside0 (kq ≤ k1) ∧ Aside0 (Below w.heap.size w w'))
     case atStart => exact ⟨(x6_1), (0), (by first | rfl | (simp; done) | (simp [*]; done)), (by first | rfl | (simp; done) | (simp [*]; done)), H', ⟨Nat.le_refl _⟩, ⟨by repeat (first | (with_reducible first | exact HB.out | apply below_alloc | apply pw_below_drewN | apply below_drew1) | exact HB.out)⟩⟩
     case round =>
      clear H'
      try clear c1
      try clear hx1
      try clear p2
      try clear q2
      try clear hx2
      try clear c3
      try clear c3b0
      try clear c3b1
      try clear p6
      try clear c7
      try clear c7b0
      try clear c8
      try clear c8b0
      try clear c10
      try clear c10b0
      try clear c11
      try clear c11b0
      try clear hx12
      try clear c13
      try clear c13b0
      try clear c13b1
      try clear c13b2
      try clear c14
      try clear c14b0
      try clear c14b1
      try clear c14b2
      try clear c15
      try clear c15b0
      try clear c16
      try clear c16b0
      try clear c16b1
      try clear c16b2
      try clear hx218_0
      try clear p2
      try clear p218
      try clear q218
      obtain ⟨x6_2, x10_2, rfl, rfl, HA, HK2, HB⟩ := hrel
      cases gk with
      | zero => exact absurd HA.out (by simp [lockkeeperlaw4_TargetUps.l1])
      | succ k2 =>
       have H := HA.out
       clear HA
       simp only [lockkeeperlaw4_TargetUps.l1] at H
       by_cases c17 : x10_2 < t217
       ·rw [if_pos c17] at H
        have c17b0 : decide (x10_2 < t217) = true := decide_eq_true c17
        clear c17
        obtain ⟨ji18, hji18⟩ : ∃ j_ : Int, (Int.tmod x10_2 3) = j_ := ⟨_, rfl⟩
        replace H : (if 0 ≤ (ji18) then (if (ji18) < 3 then (if x6_2.size + (rdOf ByteArray.empty ([(⟨#[46, 46, 47]⟩ : ByteArray), (⟨#[46, 37, 50, 101, 47]⟩ : ByteArray), (⟨#[37, 50, 69, 46, 47]⟩ : ByteArray)] : List ByteArray) (ji18)).size ≤ 9223372036854775807 then (lockkeeperlaw4_TargetUps.l1 k2 t217 (x6_2 ++ (rdOf ByteArray.empty ([(⟨#[46, 46, 47]⟩ : ByteArray), (⟨#[46, 37, 50, 101, 47]⟩ : ByteArray), (⟨#[37, 50, 69, 46, 47]⟩ : ByteArray)] : List ByteArray) (ji18))) x7_1 (wrap64 (x10_2 + 1))) else (none)) else (none)) else (none)) = some r := by first | (rw [hji18] at H; exact H) | (simp only [hji18] at H ⊢; exact H)
        by_cases c19 : 0 ≤ (ji18)
        ·rw [if_pos c19] at H
         have c19b0 : decide (0 ≤ (ji18)) = true := decide_eq_true c19
         clear c19
         by_cases c20 : (ji18) < 3
         ·rw [if_pos c20] at H
          have c20b0 : decide ((ji18) < 3) = true := decide_eq_true c20
          clear c20
          by_cases c22 : x6_2.size + (rdOf ByteArray.empty ([(⟨#[46, 46, 47]⟩ : ByteArray), (⟨#[46, 37, 50, 101, 47]⟩ : ByteArray), (⟨#[37, 50, 69, 46, 47]⟩ : ByteArray)] : List ByteArray) (ji18)).size ≤ 9223372036854775807
          ·rw [if_pos c22] at H
           have c22b0 := eq_true c22
           have c22b1 : decide (x6_2.size + (rdOf ByteArray.empty ([(⟨#[46, 46, 47]⟩ : ByteArray), (⟨#[46, 37, 50, 101, 47]⟩ : ByteArray), (⟨#[37, 50, 69, 46, 47]⟩ : ByteArray)] : List ByteArray) (ji18)).size ≤ 9223372036854775807) = true := decide_eq_true c22
           try have c22b2 : (9223372036854775807 < x6_2.size + (rdOf ByteArray.empty ([(⟨#[46, 46, 47]⟩ : ByteArray), (⟨#[46, 37, 50, 101, 47]⟩ : ByteArray), (⟨#[37, 50, 69, 46, 47]⟩ : ByteArray)] : List ByteArray) (ji18)).size) = False := eq_false (Nat.not_lt.2 c22)
           have H' := Aside0.mk H
           clear H
           have hx21 := XA.arr_at (P := Tryd.prog) (t := 57) (e := 9) 3 ([(⟨#[46, 46, 47]⟩ : ByteArray), (⟨#[46, 37, 50, 101, 47]⟩ : ByteArray), (⟨#[37, 50, 69, 46, 47]⟩ : ByteArray)] : List ByteArray) Tryd.underlying57 Tryd.underlying9 (by kernel_rfl) rfl #[Value.string (⟨#[46, 46, 47]⟩ : ByteArray), Value.string (⟨#[46, 37, 50, 101, 47]⟩ : ByteArray), Value.string (⟨#[37, 50, 69, 46, 47]⟩ : ByteArray)] rfl ((ji18) : Int) (of_decide_eq_true (by first | (with_reducible assumption) | assumption)) (of_decide_eq_true (by first | (with_reducible assumption) | assumption))
           go_wp2
           go_roundg k2
           case measure => have := HK1.out; have := HK2.out; omega
           case rel => exact ⟨(x6_2 ++ (rdOf ByteArray.empty ([(⟨#[46, 46, 47]⟩ : ByteArray), (⟨#[46, 37, 50, 101, 47]⟩ : ByteArray), (⟨#[37, 50, 69, 46, 47]⟩ : ByteArray)] : List ByteArray) (ji18))), (wrap64 (x10_2 + 1)), (by first | rfl | (simp; done) | (simp only [← hji18] <;> (first | rfl | simp)) | (simp [*]; done)), (by first | rfl | (simp; done) | (simp [*]; done)), H', ⟨by have := HK1.out; have := HK2.out; omega⟩, ⟨by repeat (first | (with_reducible first | exact HB.out | apply below_alloc | apply pw_below_drewN | apply below_drew1) | exact HB.out)⟩⟩
          ·rw [if_neg c22] at H
           exact absurd H (by simp)
         ·rw [if_neg c20] at H
          exact absurd H (by simp)
        ·rw [if_neg c19] at H
         exact absurd H (by simp)
       ·rw [if_neg c17] at H
        have c17b0 : decide (x10_2 < t217) = false := decide_eq_false c17
        clear c17
        replace H := Option.bind_eq_some_iff.mp H
        obtain ⟨t220, A230, H⟩ := H
        replace H : (if t220.toList = x7_1.toList then ((lockkeeperlaw4_awake.f k2).bind fun t221 => (some t221)) else (some false)) = some r := H
        have A23 := Aside0.mk A230
        clear A230
        by_cases c24 : t220.toList = x7_1.toList
        ·rw [if_pos c24] at H
         have c24b0 : (t220.toList == x7_1.toList) = true := beq_iff_eq.mpr c24
         have c24b1 : (t220.toList != x7_1.toList) = false := bne_eq_false_iff_eq.mpr c24
         clear c24
         replace H := Option.bind_eq_some_iff.mp H
         obtain ⟨t221, A250, H⟩ := H
         replace H : (some t221) = some r := H
         have A25 := Aside0.mk A250
         clear A250
         clear hr_
         obtain rfl := Option.some.inj H
         go_wp2_with (first | ((with_reducible refine gate_callee (f := 36) rfl ?_); refine goesL_ (some 55) rfl rfl Tryd.func36 (by kernel_rfl) rfl #[.string x6_2] rfl (by (try simp only [List.map_toArray, List.map_cons, List.map_nil]); first | done | rfl | (simp only [List.length_drop, List.length_take]; rfl)) ?_; (with_reducible refine (target_Clean.calls k2 x6_2 t220 _ A23.out).mono ?_); rintro e w26 ⟨rfl, hb⟩; refine ⟨_, rfl, ?_⟩; have n0_ := Aside0.mk (below_step (by repeat (first | (with_reducible first | exact HB.out | apply below_alloc | apply pw_below_drewN | apply below_drew1) | exact HB.out)) hb); clear HB; have HB := n0_; clear n0_; (try clear hb); (try clear hb2); (try clear hk); (try clear hi)) | (go_at_call 33; (with_reducible refine (lockkeeperlaw4_awake.calls k2  t221 _ ?side1 A25.out).mono ?_); (case side1 => exact ⟨by repeat (first | (with_reducible exact hM_.out) | (with_reducible exact LaidW.below hM_.out HB.out) | (with_reducible refine LaidW.alloc ?_ _) | (with_reducible refine LaidW.drewN ?_ _) | (with_reducible refine LaidW.drew ?_) | exact LaidW.below hM_.out (by repeat (first | (with_reducible first | exact HB.out | apply below_alloc | apply pw_below_drewN | apply below_drew1) | exact HB.out)))⟩); rintro e w27 ⟨rfl, hb⟩; have n0_ := Aside0.mk (below_step (by repeat (first | (with_reducible first | exact HB.out | apply below_alloc | apply pw_below_drewN | apply below_drew1) | exact HB.out)) hb); clear HB; have HB := n0_; clear n0_; (try clear hb); (try clear hb2); (try clear hk); (try clear hi)))
         go_ret
         exact ⟨by first | rfl | (simp [errW_none, errW_some] <;> rfl) | (simp [*, errW_none, errW_some] <;> rfl), by repeat (first | (with_reducible first | exact HB.out | apply below_alloc | apply pw_below_drewN | apply below_drew1) | exact HB.out)⟩
        ·rw [if_neg c24] at H
         have c24b0 : (t220.toList == x7_1.toList) = false := beq_eq_false_iff_ne.mpr c24
         have c24b1 : (t220.toList != x7_1.toList) = true := bne_iff_ne.mpr c24
         exact absurd ((Option.some.inj H).trans hr_) (by decide)
end Go.Proofs.YtbfbidifodcedaaDoor.Pr
