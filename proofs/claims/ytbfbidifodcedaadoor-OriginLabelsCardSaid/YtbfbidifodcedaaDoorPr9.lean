-- Made by a program of this session (wip/xp/xp.py), over the print's words.
import Derived.Test.YtbfbidifodcedaaDoorPr0
import Derived.Test.YtbfbidifodcedaaDoorPr4
import Derived.Test.YtbfbidifodcedaaDoorPr6
import Derived.Test.YtbfbidifodcedaaDoorPr8
import Derived.Test.YtbfbidifodcedaaDoorG5
namespace Go.Proofs.YtbfbidifodcedaaDoor.Pr
open Go.RowKit Go.Proofs.YtbfbidifodcedaaDoorW.PrintWords Go.Proofs.YtbfbidifodcedaaDoorW.PrintLast Go.Proofs.YtbfbidifodcedaaDoorW.PrintMore
attribute [local go_sem] max2_int min2_int max_two min_two max_three min_three max_four min_four   -- for this text's walks alone
set_option linter.unusedVariables false
set_option linter.unusedSimpArgs false

/-! ### lockkeeperlaw3_OriginLabels: function 7 -/
mutual
def lockkeeperlaw3_OriginLabels.j0 : Nat → List Int → Bool → Option (Bool)
  | 0, _, _ => none
  | k + 1, x0, x14 => if x14 = true then ((lockkeeperlaw3_awake.f k).bind fun t170 => (some t170)) else (lockkeeperlaw3_OriginLabels.l0 k x0 (⟨#[]⟩ : ByteArray) true 0)
def lockkeeperlaw3_OriginLabels.l0 : Nat → List Int → ByteArray → Bool → Int → Option (Bool)
  | 0, _, _, _, _ => none
  | k + 1, x0, x3, x4, x5 => if x5 < (x0.length : Int) then (if 0 ≤ x5 then ((lockkeeperlaw0_Low.f (rd x0 x5) 66).bind fun t175 => (if x4 = true then (if t175 ≥ 1 then (if x5 > 0 then (if x3.size + 1 ≤ 9223372036854775807 then ((lockkeeperlaw0_Text.f k t175 97).bind fun t176 => (if (x3 ++ (⟨#[46]⟩ : ByteArray)).size + t176.size ≤ 9223372036854775807 then (lockkeeperlaw3_OriginLabels.l0 k x0 ((x3 ++ (⟨#[46]⟩ : ByteArray)) ++ t176) (decide (t175 ≤ 63)) (wrap64 (x5 + 1))) else (none))) else (none)) else ((lockkeeperlaw0_Text.f k t175 97).bind fun t177 => (if x3.size + t177.size ≤ 9223372036854775807 then (lockkeeperlaw3_OriginLabels.l0 k x0 (x3 ++ t177) (decide (t175 ≤ 63)) (wrap64 (x5 + 1))) else (none)))) else (if x5 > 0 then (if x3.size + 1 ≤ 9223372036854775807 then ((lockkeeperlaw0_Text.f k t175 97).bind fun t178 => (if (x3 ++ (⟨#[46]⟩ : ByteArray)).size + t178.size ≤ 9223372036854775807 then (lockkeeperlaw3_OriginLabels.l0 k x0 ((x3 ++ (⟨#[46]⟩ : ByteArray)) ++ t178) false (wrap64 (x5 + 1))) else (none))) else (none)) else ((lockkeeperlaw0_Text.f k t175 97).bind fun t179 => (if x3.size + t179.size ≤ 9223372036854775807 then (lockkeeperlaw3_OriginLabels.l0 k x0 (x3 ++ t179) false (wrap64 (x5 + 1))) else (none))))) else (if x5 > 0 then (if x3.size + 1 ≤ 9223372036854775807 then ((lockkeeperlaw0_Text.f k t175 97).bind fun t180 => (if (x3 ++ (⟨#[46]⟩ : ByteArray)).size + t180.size ≤ 9223372036854775807 then (lockkeeperlaw3_OriginLabels.l0 k x0 ((x3 ++ (⟨#[46]⟩ : ByteArray)) ++ t180) false (wrap64 (x5 + 1))) else (none))) else (none)) else ((lockkeeperlaw0_Text.f k t175 97).bind fun t181 => (if x3.size + t181.size ≤ 9223372036854775807 then (lockkeeperlaw3_OriginLabels.l0 k x0 (x3 ++ t181) false (wrap64 (x5 + 1))) else (none)))))) else (none)) else ((origin_Check.f k (⟨#[104, 116, 116, 112]⟩ : ByteArray) x3 1).bind fun t171 => (if x4 = true then (if (t171 == (decide ((x3.size : Int) ≤ 253))) = true then ((lockkeeperlaw3_awake.f k).bind fun t172 => (some t172)) else (some false)) else (if (t171 == false) = true then ((lockkeeperlaw3_awake.f k).bind fun t173 => (some t173)) else (some false))))
end
def lockkeeperlaw3_OriginLabels.f (k : Nat) (l0 : List Int) : Option (Bool) := if (l0.length : Int) < 1 then (lockkeeperlaw3_OriginLabels.j0 k l0 true) else (lockkeeperlaw3_OriginLabels.j0 k l0 (decide ((l0.length : Int) > 12)))
theorem lockkeeperlaw3_OriginLabels.mono_l : ∀ k, (∀ y0 y1, LeO (lockkeeperlaw3_OriginLabels.j0 k y0 y1) (lockkeeperlaw3_OriginLabels.j0 (k + 1) y0 y1)) ∧ (∀ y0 y1 y2 y3, LeO (lockkeeperlaw3_OriginLabels.l0 k y0 y1 y2 y3) (lockkeeperlaw3_OriginLabels.l0 (k + 1) y0 y1 y2 y3))
  | 0 => ⟨fun _ _ r h => by simp [lockkeeperlaw3_OriginLabels.j0] at h, fun _ _ _ _ r h => by simp [lockkeeperlaw3_OriginLabels.l0] at h⟩
  | k + 1 => by
    obtain ⟨ih0, ih1⟩ := lockkeeperlaw3_OriginLabels.mono_l k
    refine ⟨?_, ?_⟩
    · intro y0 y1
      unfold lockkeeperlaw3_OriginLabels.j0
      repeat' first
      | (with_reducible exact ih0 _ _)
      | (with_reducible exact ih1 _ _ _ _)
      | (with_reducible exact lockkeeperlaw0_Text.mono _ _ _)
      | (with_reducible exact lockkeeperlaw3_awake.mono _)
      | (with_reducible exact origin_Check.mono _ _ _ _)
      | (with_reducible exact LeO.refl _)
      | (with_reducible exact LeO.none _)
      | (with_reducible refine LeO.ite ?_ ?_)
      | (with_reducible refine LeO.bind ?_ (fun _ => ?_))
      | exact ih0 _ _
      | exact ih1 _ _ _ _
      | exact lockkeeperlaw0_Text.mono _ _ _
      | exact lockkeeperlaw3_awake.mono _
      | exact origin_Check.mono _ _ _ _
      | exact LeO.none _
      | refine LeO.ite ?_ ?_
      | refine LeO.bind ?_ (fun _ => ?_)
    · intro y0 y1 y2 y3
      unfold lockkeeperlaw3_OriginLabels.l0
      repeat' first
      | (with_reducible exact ih0 _ _)
      | (with_reducible exact ih1 _ _ _ _)
      | (with_reducible exact lockkeeperlaw0_Text.mono _ _ _)
      | (with_reducible exact lockkeeperlaw3_awake.mono _)
      | (with_reducible exact origin_Check.mono _ _ _ _)
      | (with_reducible exact LeO.refl _)
      | (with_reducible exact LeO.none _)
      | (with_reducible refine LeO.ite ?_ ?_)
      | (with_reducible refine LeO.bind ?_ (fun _ => ?_))
      | exact ih0 _ _
      | exact ih1 _ _ _ _
      | exact lockkeeperlaw0_Text.mono _ _ _
      | exact lockkeeperlaw3_awake.mono _
      | exact origin_Check.mono _ _ _ _
      | exact LeO.none _
      | refine LeO.ite ?_ ?_
      | refine LeO.bind ?_ (fun _ => ?_)
theorem lockkeeperlaw3_OriginLabels.mono : ∀ a0 k, LeO (lockkeeperlaw3_OriginLabels.f k a0) (lockkeeperlaw3_OriginLabels.f (k + 1) a0) := by
  intro a0 k
  obtain ⟨ih0, ih1⟩ := lockkeeperlaw3_OriginLabels.mono_l k
  unfold lockkeeperlaw3_OriginLabels.f
  repeat' first
      | (with_reducible exact ih0 _ _)
      | (with_reducible exact ih1 _ _ _ _)
      | (with_reducible exact lockkeeperlaw0_Text.mono _ _ _)
      | (with_reducible exact lockkeeperlaw3_awake.mono _)
      | (with_reducible exact origin_Check.mono _ _ _ _)
      | (with_reducible exact LeO.refl _)
      | (with_reducible exact LeO.none _)
      | (with_reducible refine LeO.ite ?_ ?_)
      | (with_reducible refine LeO.bind ?_ (fun _ => ?_))
      | exact ih0 _ _
      | exact ih1 _ _ _ _
      | exact lockkeeperlaw0_Text.mono _ _ _
      | exact lockkeeperlaw3_awake.mono _
      | exact origin_Check.mono _ _ _ _
      | exact LeO.none _
      | refine LeO.ite ?_ ?_
      | refine LeO.bind ?_ (fun _ => ?_)
set_option maxHeartbeats 8000000 in
set_option maxRecDepth 100000 in
theorem lockkeeperlaw3_OriginLabels.calls (k : Nat) (A0 : Option Addr) (c0 : Nat) (l0 : List Int) (r : Bool) (w : World) (hr0 : Kd.C (Kd.int .i64) w A0 l0.length l0) (hc0 : l0.length ≤ c0) (hM_ : Aside0 (LaidW w)) (h : lockkeeperlaw3_OriginLabels.f k l0 = some r) :
    Calls Tryd.prog 7 #[.slice A0 l0.length c0] w fun e w' => e = .returned (.bool r) ∧ Below w.heap.size w w' := by
  have hu23 := Tryd.underlying23
  have HR0 := Aside0.mk hr0
  have HC0 := Aside0.mk hc0
  clear hr0 hc0
  have HB := Aside0.mk (Below.refl w.heap.size w)
  have H : (if (l0.length : Int) < 1 then (lockkeeperlaw3_OriginLabels.j0 k l0 true) else (lockkeeperlaw3_OriginLabels.j0 k l0 (decide ((l0.length : Int) > 12)))) = some r := h
  clear h
  have HC2 := Aside0.mk H
  clear H
  go_enter Tryd.func7, Tryd.ntmps7
  go_upto_region 1 with (fail)
  go_cut [14] (fun v14 wc => ∃ (kq : Nat) (x14_1 : Bool), v14 = .bool x14_1 ∧ Aside0 (lockkeeperlaw3_OriginLabels.j0 kq l0 x14_1 = some r) ∧ Aside0 (kq ≤ k) ∧ Aside0 (Below w.heap.size w wc))
  case first =>
    have H := HC2.out
    clear HC2
    by_cases c3 : (l0.length : Int) < 1
    · rw [if_pos c3] at H
      have c3b0 : decide ((l0.length : Int) < 1) = true := decide_eq_true c3
      have c3b1 : decide (l0.length < 1) = true := decide_eq_true (by omega)
      clear c3
      (first | rw [c3b0] | (simp only [i64_w, i32_w]; rw [c3b0]) | skip)
      have H' := Aside0.mk H
      clear H
      go_wp2
      go_meet
      case rel => exact ⟨_, (true), (by first | rfl | (simp; done) | (simp [*]; done)), H', ⟨by first | omega | exact Nat.le_refl _⟩, ⟨by repeat (first | (with_reducible first | exact HB.out | apply below_alloc | apply pw_below_drewN | apply below_drew1) | exact HB.out)⟩⟩
    · rw [if_neg c3] at H
      have c3b0 : decide ((l0.length : Int) < 1) = false := decide_eq_false c3
      have c3b1 : decide (l0.length < 1) = false := decide_eq_false (by omega)
      clear c3
      (first | rw [c3b0] | (simp only [i64_w, i32_w]; rw [c3b0]) | skip)
      have H' := Aside0.mk H
      clear H
      go_wp2
      go_meet
      case rel => exact ⟨_, (decide ((l0.length : Int) > 12)), (by first | rfl | (simp; done) | (simp [*]; done)), H', ⟨by first | omega | exact Nat.le_refl _⟩, ⟨by repeat (first | (with_reducible first | exact HB.out | apply below_alloc | apply pw_below_drewN | apply below_drew1) | exact HB.out)⟩⟩
  case rest =>
    clear HC2
    try clear p2
    try clear c3
    try clear c3b0
    try clear c3b1
    obtain ⟨kq, x14_1, rfl, HA, HJ1, HB⟩ := hcut
    cases kq with
    | zero => exact absurd HA.out (by simp [lockkeeperlaw3_OriginLabels.j0])
    | succ kj1 =>
      have H := HA.out
      clear HA
      simp only [lockkeeperlaw3_OriginLabels.j0] at H
      by_cases c4 : x14_1 = true
      · subst c4
        have H1 : ((lockkeeperlaw3_awake.f kj1).bind fun t170 => (some t170)) = some r := by rw [if_pos rfl] at H; exact H
        clear H
        have H := H1
        clear H1
        replace H := Option.bind_eq_some_iff.mp H
        obtain ⟨t170, A50, H⟩ := H
        replace H : (some t170) = some r := H
        have A5 := Aside0.mk A50
        clear A50
        obtain rfl := Option.some.inj H
        go_wp2_with (first | ((with_reducible refine gate_callee (f := 18) rfl ?_); refine goesL_ (some 15) rfl rfl Tryd.func18 (by kernel_rfl) rfl #[] rfl (by (try simp only [List.map_toArray, List.map_cons, List.map_nil]); first | done | rfl | (simp only [List.length_drop, List.length_take]; rfl)) ?_; (with_reducible refine (lockkeeperlaw3_awake.calls kj1  t170 _ ?side1 A5.out).mono ?_); (case side1 => exact ⟨by repeat (first | exact hM_.out | exact LaidW.below hM_.out HB.out | (with_reducible refine LaidW.alloc ?_ _) | (with_reducible refine LaidW.drewN ?_ _) | (with_reducible refine LaidW.drew ?_) | exact LaidW.below hM_.out (by repeat (first | (with_reducible first | exact HB.out | apply below_alloc | apply pw_below_drewN | apply below_drew1) | exact HB.out)))⟩); rintro e w6 ⟨rfl, hb⟩; refine ⟨_, rfl, ?_⟩; have n0_ := Aside0.mk (below_step (by repeat (first | (with_reducible first | exact HB.out | apply below_alloc | apply pw_below_drewN | apply below_drew1) | exact HB.out)) hb); clear HB; have HB := n0_; clear n0_; (try clear hb); (try clear hb2); (try clear hk); (try clear hi)))
        go_ret
        exact ⟨by first | rfl | (simp [errW_none, errW_some] <;> rfl) | (simp [*, errW_none, errW_some] <;> rfl), by repeat (first | (with_reducible first | exact HB.out | apply below_alloc | apply pw_below_drewN | apply below_drew1) | exact HB.out)⟩
      · replace c4 := Bool.eq_false_iff.mpr c4
        subst c4
        have H1 : (lockkeeperlaw3_OriginLabels.l0 kj1 l0 (⟨#[]⟩ : ByteArray) true 0) = some r := by rw [if_neg (show ¬ (false = true) by decide)] at H; exact H
        clear H
        have H := H1
        clear H1
        have H' := Aside0.mk H
        clear H
        go_wp2
        go_loopg [3, 4, 5] kj1 (fun kq v3 v4 v5 w' => ∃ (x3_2 : ByteArray) (x4_2 : Bool) (x5_2 : Int), v3 = .string x3_2 ∧ v4 = .bool x4_2 ∧ v5 = .int .i64 x5_2 ∧ Aside0 (lockkeeperlaw3_OriginLabels.l0 kq l0 x3_2 x4_2 x5_2 = some r) ∧ Aside0 (kq ≤ kj1) ∧ Aside0 (Below w.heap.size w w'))
        case atStart => exact ⟨((⟨#[]⟩ : ByteArray)), (true), (0), (by first | rfl | (simp; done) | (simp [*]; done)), (by first | rfl | (simp; done) | (simp [*]; done)), (by first | rfl | (simp; done) | (simp [*]; done)), H', ⟨Nat.le_refl _⟩, ⟨by repeat (first | (with_reducible first | exact HB.out | apply below_alloc | apply pw_below_drewN | apply below_drew1) | exact HB.out)⟩⟩
        case round =>
          clear H'
          try clear c1
          try clear p2
          try clear c3
          try clear c3b0
          try clear c3b1
          try clear c4
          try clear p2
          obtain ⟨x3_2, x4_2, x5_2, rfl, rfl, rfl, HA, HK2, HB⟩ := hrel
          cases gk with
          | zero => exact absurd HA.out (by simp [lockkeeperlaw3_OriginLabels.l0])
          | succ k2 =>
            have H := HA.out
            clear HA
            simp only [lockkeeperlaw3_OriginLabels.l0] at H
            by_cases c7 : x5_2 < (l0.length : Int)
            · rw [if_pos c7] at H
              have c7b0 : decide (x5_2 < (l0.length : Int)) = true := decide_eq_true c7
              clear c7
              by_cases c8 : 0 ≤ x5_2
              · rw [if_pos c8] at H
                have c8b0 : decide (0 ≤ x5_2) = true := decide_eq_true c8
                clear c8
                replace H := Option.bind_eq_some_iff.mp H
                obtain ⟨t175, A90, H⟩ := H
                replace H : (if x4_2 = true then (if t175 ≥ 1 then (if x5_2 > 0 then (if x3_2.size + 1 ≤ 9223372036854775807 then ((lockkeeperlaw0_Text.f k2 t175 97).bind fun t176 => (if (x3_2 ++ (⟨#[46]⟩ : ByteArray)).size + t176.size ≤ 9223372036854775807 then (lockkeeperlaw3_OriginLabels.l0 k2 l0 ((x3_2 ++ (⟨#[46]⟩ : ByteArray)) ++ t176) (decide (t175 ≤ 63)) (wrap64 (x5_2 + 1))) else (none))) else (none)) else ((lockkeeperlaw0_Text.f k2 t175 97).bind fun t177 => (if x3_2.size + t177.size ≤ 9223372036854775807 then (lockkeeperlaw3_OriginLabels.l0 k2 l0 (x3_2 ++ t177) (decide (t175 ≤ 63)) (wrap64 (x5_2 + 1))) else (none)))) else (if x5_2 > 0 then (if x3_2.size + 1 ≤ 9223372036854775807 then ((lockkeeperlaw0_Text.f k2 t175 97).bind fun t178 => (if (x3_2 ++ (⟨#[46]⟩ : ByteArray)).size + t178.size ≤ 9223372036854775807 then (lockkeeperlaw3_OriginLabels.l0 k2 l0 ((x3_2 ++ (⟨#[46]⟩ : ByteArray)) ++ t178) false (wrap64 (x5_2 + 1))) else (none))) else (none)) else ((lockkeeperlaw0_Text.f k2 t175 97).bind fun t179 => (if x3_2.size + t179.size ≤ 9223372036854775807 then (lockkeeperlaw3_OriginLabels.l0 k2 l0 (x3_2 ++ t179) false (wrap64 (x5_2 + 1))) else (none))))) else (if x5_2 > 0 then (if x3_2.size + 1 ≤ 9223372036854775807 then ((lockkeeperlaw0_Text.f k2 t175 97).bind fun t180 => (if (x3_2 ++ (⟨#[46]⟩ : ByteArray)).size + t180.size ≤ 9223372036854775807 then (lockkeeperlaw3_OriginLabels.l0 k2 l0 ((x3_2 ++ (⟨#[46]⟩ : ByteArray)) ++ t180) false (wrap64 (x5_2 + 1))) else (none))) else (none)) else ((lockkeeperlaw0_Text.f k2 t175 97).bind fun t181 => (if x3_2.size + t181.size ≤ 9223372036854775807 then (lockkeeperlaw3_OriginLabels.l0 k2 l0 (x3_2 ++ t181) false (wrap64 (x5_2 + 1))) else (none))))) = some r := H
                have A9 := Aside0.mk A90
                clear A90
                by_cases c10 : x4_2 = true
                · subst c10
                  have H1 : (if t175 ≥ 1 then (if x5_2 > 0 then (if x3_2.size + 1 ≤ 9223372036854775807 then ((lockkeeperlaw0_Text.f k2 t175 97).bind fun t176 => (if (x3_2 ++ (⟨#[46]⟩ : ByteArray)).size + t176.size ≤ 9223372036854775807 then (lockkeeperlaw3_OriginLabels.l0 k2 l0 ((x3_2 ++ (⟨#[46]⟩ : ByteArray)) ++ t176) (decide (t175 ≤ 63)) (wrap64 (x5_2 + 1))) else (none))) else (none)) else ((lockkeeperlaw0_Text.f k2 t175 97).bind fun t177 => (if x3_2.size + t177.size ≤ 9223372036854775807 then (lockkeeperlaw3_OriginLabels.l0 k2 l0 (x3_2 ++ t177) (decide (t175 ≤ 63)) (wrap64 (x5_2 + 1))) else (none)))) else (if x5_2 > 0 then (if x3_2.size + 1 ≤ 9223372036854775807 then ((lockkeeperlaw0_Text.f k2 t175 97).bind fun t178 => (if (x3_2 ++ (⟨#[46]⟩ : ByteArray)).size + t178.size ≤ 9223372036854775807 then (lockkeeperlaw3_OriginLabels.l0 k2 l0 ((x3_2 ++ (⟨#[46]⟩ : ByteArray)) ++ t178) false (wrap64 (x5_2 + 1))) else (none))) else (none)) else ((lockkeeperlaw0_Text.f k2 t175 97).bind fun t179 => (if x3_2.size + t179.size ≤ 9223372036854775807 then (lockkeeperlaw3_OriginLabels.l0 k2 l0 (x3_2 ++ t179) false (wrap64 (x5_2 + 1))) else (none))))) = some r := by rw [if_pos rfl] at H; exact H
                  clear H
                  have H := H1
                  clear H1
                  by_cases c11 : t175 ≥ 1
                  · rw [if_pos c11] at H
                    have c11b0 : decide (1 ≤ t175) = true := decide_eq_true c11
                    clear c11
                    by_cases c12 : x5_2 > 0
                    · rw [if_pos c12] at H
                      have c12b0 : decide (0 < x5_2) = true := decide_eq_true c12
                      clear c12
                      by_cases c13 : x3_2.size + 1 ≤ 9223372036854775807
                      · rw [if_pos c13] at H
                        have c13b0 := eq_true c13
                        have c13b1 : decide (x3_2.size + 1 ≤ 9223372036854775807) = true := decide_eq_true c13
                        try have c13b2 : (9223372036854775807 < x3_2.size + 1) = False := eq_false (Nat.not_lt.2 c13)
                        replace H := Option.bind_eq_some_iff.mp H
                        obtain ⟨t176, A140, H⟩ := H
                        replace H : (if (x3_2 ++ (⟨#[46]⟩ : ByteArray)).size + t176.size ≤ 9223372036854775807 then (lockkeeperlaw3_OriginLabels.l0 k2 l0 ((x3_2 ++ (⟨#[46]⟩ : ByteArray)) ++ t176) (decide (t175 ≤ 63)) (wrap64 (x5_2 + 1))) else (none)) = some r := H
                        have A14 := Aside0.mk A140
                        clear A140
                        by_cases c15 : (x3_2 ++ (⟨#[46]⟩ : ByteArray)).size + t176.size ≤ 9223372036854775807
                        · rw [if_pos c15] at H
                          try (have c15b5 := c15; simp only [ByteArray.size_append, Int.natCast_add] at c15b5)
                          have c15b0 := eq_true c15
                          have c15b1 : decide ((x3_2 ++ (⟨#[46]⟩ : ByteArray)).size + t176.size ≤ 9223372036854775807) = true := decide_eq_true c15
                          try have c15b2 : (9223372036854775807 < (x3_2 ++ (⟨#[46]⟩ : ByteArray)).size + t176.size) = False := eq_false (Nat.not_lt.2 c15)
                          try have c15b3 : (9223372036854775807 < x3_2.size + 1 + t176.size) = False := eq_false (Nat.not_lt.2 (by have z_ := c15; simp only [ByteArray.size_append] at z_; first | exact z_ | simpa using z_))
                          have H' := Aside0.mk H
                          clear H
                          have p174 : 0 ≤ (x5_2 : Int) := of_decide_eq_true (by first | (with_reducible assumption) | assumption)
                          have q174 : x5_2 < (l0.length : Int) := of_decide_eq_true (by first | (with_reducible assumption) | assumption)
                          obtain ⟨ad174, e174, hx174_0⟩ := Kd.at_int HR0.out x5_2 p174 q174
                          cases e174
                          replace hx174_0 := (HB.out.cell (World.block_lt_of_cell? w _ hx174_0)).trans hx174_0
                          replace p174 := eq_true p174
                          replace q174 := eq_true q174
                          go_wp2_with (first | ((with_reducible refine gate_callee (f := 30) rfl ?_); refine goesL_ (some 26) rfl rfl Tryd.func30 (by kernel_rfl) rfl #[.int .i64 (rd l0 x5_2), .int .i64 66] rfl (by (try simp only [List.map_toArray, List.map_cons, List.map_nil]); first | done | rfl | (simp only [List.length_drop, List.length_take]; rfl)) ?_; (with_reducible refine (lockkeeperlaw0_Low.calls (rd l0 x5_2) 66 t175 _ A9.out).mono ?_); rintro e w' ⟨rfl, ⟨nd, rfl⟩⟩; refine ⟨_, rfl, ?_⟩) | ((with_reducible refine gate_callee (f := 31) rfl ?_); refine goesL_ (some 42) rfl rfl Tryd.func31 (by kernel_rfl) rfl #[.int .i64 t175, .int .u8 97] rfl (by (try simp only [List.map_toArray, List.map_cons, List.map_nil]); first | done | rfl | (simp only [List.length_drop, List.length_take]; rfl)) ?_; (with_reducible refine (lockkeeperlaw0_Text.calls k2 t175 97 t176 _ A14.out).mono ?_); rintro e w16 ⟨rfl, hb⟩; refine ⟨_, rfl, ?_⟩; have n0_ := Aside0.mk (below_step (by repeat (first | (with_reducible first | exact HB.out | apply below_alloc | apply pw_below_drewN | apply below_drew1) | exact HB.out)) hb); clear HB; have HB := n0_; clear n0_; (try clear hb); (try clear hb2); (try clear hk); (try clear hi)))
                          go_roundg k2
                          case measure => have := HJ1.out; have := HK2.out; omega
                          case rel => exact ⟨((x3_2 ++ (⟨#[46]⟩ : ByteArray)) ++ t176), (decide (t175 ≤ 63)), (wrap64 (x5_2 + 1)), (by first | rfl | (simp; done) | (simp [*]; done)), (by first | rfl | (simp; done) | (simp [*]; done)), (by first | rfl | (simp; done) | (simp [*]; done)), H', ⟨by have := HJ1.out; have := HK2.out; omega⟩, ⟨by repeat (first | (with_reducible first | exact HB.out | apply below_alloc | apply pw_below_drewN | apply below_drew1) | exact HB.out)⟩⟩
                        · rw [if_neg c15] at H
                          exact absurd H (by simp)
                      · rw [if_neg c13] at H
                        exact absurd H (by simp)
                    · rw [if_neg c12] at H
                      have c12b0 : decide (0 < x5_2) = false := decide_eq_false c12
                      clear c12
                      replace H := Option.bind_eq_some_iff.mp H
                      obtain ⟨t177, A170, H⟩ := H
                      replace H : (if x3_2.size + t177.size ≤ 9223372036854775807 then (lockkeeperlaw3_OriginLabels.l0 k2 l0 (x3_2 ++ t177) (decide (t175 ≤ 63)) (wrap64 (x5_2 + 1))) else (none)) = some r := H
                      have A17 := Aside0.mk A170
                      clear A170
                      by_cases c18 : x3_2.size + t177.size ≤ 9223372036854775807
                      · rw [if_pos c18] at H
                        have c18b0 := eq_true c18
                        have c18b1 : decide (x3_2.size + t177.size ≤ 9223372036854775807) = true := decide_eq_true c18
                        try have c18b2 : (9223372036854775807 < x3_2.size + t177.size) = False := eq_false (Nat.not_lt.2 c18)
                        have H' := Aside0.mk H
                        clear H
                        have p174 : 0 ≤ (x5_2 : Int) := of_decide_eq_true (by first | (with_reducible assumption) | assumption)
                        have q174 : x5_2 < (l0.length : Int) := of_decide_eq_true (by first | (with_reducible assumption) | assumption)
                        obtain ⟨ad174, e174, hx174_0⟩ := Kd.at_int HR0.out x5_2 p174 q174
                        cases e174
                        replace hx174_0 := (HB.out.cell (World.block_lt_of_cell? w _ hx174_0)).trans hx174_0
                        replace p174 := eq_true p174
                        replace q174 := eq_true q174
                        go_wp2_with (first | ((with_reducible refine gate_callee (f := 30) rfl ?_); refine goesL_ (some 26) rfl rfl Tryd.func30 (by kernel_rfl) rfl #[.int .i64 (rd l0 x5_2), .int .i64 66] rfl (by (try simp only [List.map_toArray, List.map_cons, List.map_nil]); first | done | rfl | (simp only [List.length_drop, List.length_take]; rfl)) ?_; (with_reducible refine (lockkeeperlaw0_Low.calls (rd l0 x5_2) 66 t175 _ A9.out).mono ?_); rintro e w' ⟨rfl, ⟨nd, rfl⟩⟩; refine ⟨_, rfl, ?_⟩) | ((with_reducible refine gate_callee (f := 31) rfl ?_); refine goesL_ (some 42) rfl rfl Tryd.func31 (by kernel_rfl) rfl #[.int .i64 t175, .int .u8 97] rfl (by (try simp only [List.map_toArray, List.map_cons, List.map_nil]); first | done | rfl | (simp only [List.length_drop, List.length_take]; rfl)) ?_; (with_reducible refine (lockkeeperlaw0_Text.calls k2 t175 97 t177 _ A17.out).mono ?_); rintro e w19 ⟨rfl, hb⟩; refine ⟨_, rfl, ?_⟩; have n0_ := Aside0.mk (below_step (by repeat (first | (with_reducible first | exact HB.out | apply below_alloc | apply pw_below_drewN | apply below_drew1) | exact HB.out)) hb); clear HB; have HB := n0_; clear n0_; (try clear hb); (try clear hb2); (try clear hk); (try clear hi)))
                        go_roundg k2
                        case measure => have := HJ1.out; have := HK2.out; omega
                        case rel => exact ⟨(x3_2 ++ t177), (decide (t175 ≤ 63)), (wrap64 (x5_2 + 1)), (by first | rfl | (simp; done) | (simp [*]; done)), (by first | rfl | (simp; done) | (simp [*]; done)), (by first | rfl | (simp; done) | (simp [*]; done)), H', ⟨by have := HJ1.out; have := HK2.out; omega⟩, ⟨by repeat (first | (with_reducible first | exact HB.out | apply below_alloc | apply pw_below_drewN | apply below_drew1) | exact HB.out)⟩⟩
                      · rw [if_neg c18] at H
                        exact absurd H (by simp)
                  · rw [if_neg c11] at H
                    have c11b0 : decide (1 ≤ t175) = false := decide_eq_false c11
                    clear c11
                    by_cases c20 : x5_2 > 0
                    · rw [if_pos c20] at H
                      have c20b0 : decide (0 < x5_2) = true := decide_eq_true c20
                      clear c20
                      by_cases c21 : x3_2.size + 1 ≤ 9223372036854775807
                      · rw [if_pos c21] at H
                        have c21b0 := eq_true c21
                        have c21b1 : decide (x3_2.size + 1 ≤ 9223372036854775807) = true := decide_eq_true c21
                        try have c21b2 : (9223372036854775807 < x3_2.size + 1) = False := eq_false (Nat.not_lt.2 c21)
                        replace H := Option.bind_eq_some_iff.mp H
                        obtain ⟨t178, A220, H⟩ := H
                        replace H : (if (x3_2 ++ (⟨#[46]⟩ : ByteArray)).size + t178.size ≤ 9223372036854775807 then (lockkeeperlaw3_OriginLabels.l0 k2 l0 ((x3_2 ++ (⟨#[46]⟩ : ByteArray)) ++ t178) false (wrap64 (x5_2 + 1))) else (none)) = some r := H
                        have A22 := Aside0.mk A220
                        clear A220
                        by_cases c23 : (x3_2 ++ (⟨#[46]⟩ : ByteArray)).size + t178.size ≤ 9223372036854775807
                        · rw [if_pos c23] at H
                          try (have c23b5 := c23; simp only [ByteArray.size_append, Int.natCast_add] at c23b5)
                          have c23b0 := eq_true c23
                          have c23b1 : decide ((x3_2 ++ (⟨#[46]⟩ : ByteArray)).size + t178.size ≤ 9223372036854775807) = true := decide_eq_true c23
                          try have c23b2 : (9223372036854775807 < (x3_2 ++ (⟨#[46]⟩ : ByteArray)).size + t178.size) = False := eq_false (Nat.not_lt.2 c23)
                          try have c23b3 : (9223372036854775807 < x3_2.size + 1 + t178.size) = False := eq_false (Nat.not_lt.2 (by have z_ := c23; simp only [ByteArray.size_append] at z_; first | exact z_ | simpa using z_))
                          have H' := Aside0.mk H
                          clear H
                          have p174 : 0 ≤ (x5_2 : Int) := of_decide_eq_true (by first | (with_reducible assumption) | assumption)
                          have q174 : x5_2 < (l0.length : Int) := of_decide_eq_true (by first | (with_reducible assumption) | assumption)
                          obtain ⟨ad174, e174, hx174_0⟩ := Kd.at_int HR0.out x5_2 p174 q174
                          cases e174
                          replace hx174_0 := (HB.out.cell (World.block_lt_of_cell? w _ hx174_0)).trans hx174_0
                          replace p174 := eq_true p174
                          replace q174 := eq_true q174
                          go_wp2_with (first | ((with_reducible refine gate_callee (f := 30) rfl ?_); refine goesL_ (some 26) rfl rfl Tryd.func30 (by kernel_rfl) rfl #[.int .i64 (rd l0 x5_2), .int .i64 66] rfl (by (try simp only [List.map_toArray, List.map_cons, List.map_nil]); first | done | rfl | (simp only [List.length_drop, List.length_take]; rfl)) ?_; (with_reducible refine (lockkeeperlaw0_Low.calls (rd l0 x5_2) 66 t175 _ A9.out).mono ?_); rintro e w' ⟨rfl, ⟨nd, rfl⟩⟩; refine ⟨_, rfl, ?_⟩) | ((with_reducible refine gate_callee (f := 31) rfl ?_); refine goesL_ (some 42) rfl rfl Tryd.func31 (by kernel_rfl) rfl #[.int .i64 t175, .int .u8 97] rfl (by (try simp only [List.map_toArray, List.map_cons, List.map_nil]); first | done | rfl | (simp only [List.length_drop, List.length_take]; rfl)) ?_; (with_reducible refine (lockkeeperlaw0_Text.calls k2 t175 97 t178 _ A22.out).mono ?_); rintro e w24 ⟨rfl, hb⟩; refine ⟨_, rfl, ?_⟩; have n0_ := Aside0.mk (below_step (by repeat (first | (with_reducible first | exact HB.out | apply below_alloc | apply pw_below_drewN | apply below_drew1) | exact HB.out)) hb); clear HB; have HB := n0_; clear n0_; (try clear hb); (try clear hb2); (try clear hk); (try clear hi)))
                          go_roundg k2
                          case measure => have := HJ1.out; have := HK2.out; omega
                          case rel => exact ⟨((x3_2 ++ (⟨#[46]⟩ : ByteArray)) ++ t178), (false), (wrap64 (x5_2 + 1)), (by first | rfl | (simp; done) | (simp [*]; done)), (by first | rfl | (simp; done) | (simp [*]; done)), (by first | rfl | (simp; done) | (simp [*]; done)), H', ⟨by have := HJ1.out; have := HK2.out; omega⟩, ⟨by repeat (first | (with_reducible first | exact HB.out | apply below_alloc | apply pw_below_drewN | apply below_drew1) | exact HB.out)⟩⟩
                        · rw [if_neg c23] at H
                          exact absurd H (by simp)
                      · rw [if_neg c21] at H
                        exact absurd H (by simp)
                    · rw [if_neg c20] at H
                      have c20b0 : decide (0 < x5_2) = false := decide_eq_false c20
                      clear c20
                      replace H := Option.bind_eq_some_iff.mp H
                      obtain ⟨t179, A250, H⟩ := H
                      replace H : (if x3_2.size + t179.size ≤ 9223372036854775807 then (lockkeeperlaw3_OriginLabels.l0 k2 l0 (x3_2 ++ t179) false (wrap64 (x5_2 + 1))) else (none)) = some r := H
                      have A25 := Aside0.mk A250
                      clear A250
                      by_cases c26 : x3_2.size + t179.size ≤ 9223372036854775807
                      · rw [if_pos c26] at H
                        have c26b0 := eq_true c26
                        have c26b1 : decide (x3_2.size + t179.size ≤ 9223372036854775807) = true := decide_eq_true c26
                        try have c26b2 : (9223372036854775807 < x3_2.size + t179.size) = False := eq_false (Nat.not_lt.2 c26)
                        have H' := Aside0.mk H
                        clear H
                        have p174 : 0 ≤ (x5_2 : Int) := of_decide_eq_true (by first | (with_reducible assumption) | assumption)
                        have q174 : x5_2 < (l0.length : Int) := of_decide_eq_true (by first | (with_reducible assumption) | assumption)
                        obtain ⟨ad174, e174, hx174_0⟩ := Kd.at_int HR0.out x5_2 p174 q174
                        cases e174
                        replace hx174_0 := (HB.out.cell (World.block_lt_of_cell? w _ hx174_0)).trans hx174_0
                        replace p174 := eq_true p174
                        replace q174 := eq_true q174
                        go_wp2_with (first | ((with_reducible refine gate_callee (f := 30) rfl ?_); refine goesL_ (some 26) rfl rfl Tryd.func30 (by kernel_rfl) rfl #[.int .i64 (rd l0 x5_2), .int .i64 66] rfl (by (try simp only [List.map_toArray, List.map_cons, List.map_nil]); first | done | rfl | (simp only [List.length_drop, List.length_take]; rfl)) ?_; (with_reducible refine (lockkeeperlaw0_Low.calls (rd l0 x5_2) 66 t175 _ A9.out).mono ?_); rintro e w' ⟨rfl, ⟨nd, rfl⟩⟩; refine ⟨_, rfl, ?_⟩) | ((with_reducible refine gate_callee (f := 31) rfl ?_); refine goesL_ (some 42) rfl rfl Tryd.func31 (by kernel_rfl) rfl #[.int .i64 t175, .int .u8 97] rfl (by (try simp only [List.map_toArray, List.map_cons, List.map_nil]); first | done | rfl | (simp only [List.length_drop, List.length_take]; rfl)) ?_; (with_reducible refine (lockkeeperlaw0_Text.calls k2 t175 97 t179 _ A25.out).mono ?_); rintro e w27 ⟨rfl, hb⟩; refine ⟨_, rfl, ?_⟩; have n0_ := Aside0.mk (below_step (by repeat (first | (with_reducible first | exact HB.out | apply below_alloc | apply pw_below_drewN | apply below_drew1) | exact HB.out)) hb); clear HB; have HB := n0_; clear n0_; (try clear hb); (try clear hb2); (try clear hk); (try clear hi)))
                        go_roundg k2
                        case measure => have := HJ1.out; have := HK2.out; omega
                        case rel => exact ⟨(x3_2 ++ t179), (false), (wrap64 (x5_2 + 1)), (by first | rfl | (simp; done) | (simp [*]; done)), (by first | rfl | (simp; done) | (simp [*]; done)), (by first | rfl | (simp; done) | (simp [*]; done)), H', ⟨by have := HJ1.out; have := HK2.out; omega⟩, ⟨by repeat (first | (with_reducible first | exact HB.out | apply below_alloc | apply pw_below_drewN | apply below_drew1) | exact HB.out)⟩⟩
                      · rw [if_neg c26] at H
                        exact absurd H (by simp)
                · replace c10 := Bool.eq_false_iff.mpr c10
                  subst c10
                  have H1 : (if x5_2 > 0 then (if x3_2.size + 1 ≤ 9223372036854775807 then ((lockkeeperlaw0_Text.f k2 t175 97).bind fun t180 => (if (x3_2 ++ (⟨#[46]⟩ : ByteArray)).size + t180.size ≤ 9223372036854775807 then (lockkeeperlaw3_OriginLabels.l0 k2 l0 ((x3_2 ++ (⟨#[46]⟩ : ByteArray)) ++ t180) false (wrap64 (x5_2 + 1))) else (none))) else (none)) else ((lockkeeperlaw0_Text.f k2 t175 97).bind fun t181 => (if x3_2.size + t181.size ≤ 9223372036854775807 then (lockkeeperlaw3_OriginLabels.l0 k2 l0 (x3_2 ++ t181) false (wrap64 (x5_2 + 1))) else (none)))) = some r := by rw [if_neg (show ¬ (false = true) by decide)] at H; exact H
                  clear H
                  have H := H1
                  clear H1
                  by_cases c28 : x5_2 > 0
                  · rw [if_pos c28] at H
                    have c28b0 : decide (0 < x5_2) = true := decide_eq_true c28
                    clear c28
                    by_cases c29 : x3_2.size + 1 ≤ 9223372036854775807
                    · rw [if_pos c29] at H
                      have c29b0 := eq_true c29
                      have c29b1 : decide (x3_2.size + 1 ≤ 9223372036854775807) = true := decide_eq_true c29
                      try have c29b2 : (9223372036854775807 < x3_2.size + 1) = False := eq_false (Nat.not_lt.2 c29)
                      replace H := Option.bind_eq_some_iff.mp H
                      obtain ⟨t180, A300, H⟩ := H
                      replace H : (if (x3_2 ++ (⟨#[46]⟩ : ByteArray)).size + t180.size ≤ 9223372036854775807 then (lockkeeperlaw3_OriginLabels.l0 k2 l0 ((x3_2 ++ (⟨#[46]⟩ : ByteArray)) ++ t180) false (wrap64 (x5_2 + 1))) else (none)) = some r := H
                      have A30 := Aside0.mk A300
                      clear A300
                      by_cases c31 : (x3_2 ++ (⟨#[46]⟩ : ByteArray)).size + t180.size ≤ 9223372036854775807
                      · rw [if_pos c31] at H
                        try (have c31b5 := c31; simp only [ByteArray.size_append, Int.natCast_add] at c31b5)
                        have c31b0 := eq_true c31
                        have c31b1 : decide ((x3_2 ++ (⟨#[46]⟩ : ByteArray)).size + t180.size ≤ 9223372036854775807) = true := decide_eq_true c31
                        try have c31b2 : (9223372036854775807 < (x3_2 ++ (⟨#[46]⟩ : ByteArray)).size + t180.size) = False := eq_false (Nat.not_lt.2 c31)
                        try have c31b3 : (9223372036854775807 < x3_2.size + 1 + t180.size) = False := eq_false (Nat.not_lt.2 (by have z_ := c31; simp only [ByteArray.size_append] at z_; first | exact z_ | simpa using z_))
                        have H' := Aside0.mk H
                        clear H
                        have p174 : 0 ≤ (x5_2 : Int) := of_decide_eq_true (by first | (with_reducible assumption) | assumption)
                        have q174 : x5_2 < (l0.length : Int) := of_decide_eq_true (by first | (with_reducible assumption) | assumption)
                        obtain ⟨ad174, e174, hx174_0⟩ := Kd.at_int HR0.out x5_2 p174 q174
                        cases e174
                        replace hx174_0 := (HB.out.cell (World.block_lt_of_cell? w _ hx174_0)).trans hx174_0
                        replace p174 := eq_true p174
                        replace q174 := eq_true q174
                        go_wp2_with (first | ((with_reducible refine gate_callee (f := 30) rfl ?_); refine goesL_ (some 26) rfl rfl Tryd.func30 (by kernel_rfl) rfl #[.int .i64 (rd l0 x5_2), .int .i64 66] rfl (by (try simp only [List.map_toArray, List.map_cons, List.map_nil]); first | done | rfl | (simp only [List.length_drop, List.length_take]; rfl)) ?_; (with_reducible refine (lockkeeperlaw0_Low.calls (rd l0 x5_2) 66 t175 _ A9.out).mono ?_); rintro e w' ⟨rfl, ⟨nd, rfl⟩⟩; refine ⟨_, rfl, ?_⟩) | ((with_reducible refine gate_callee (f := 31) rfl ?_); refine goesL_ (some 42) rfl rfl Tryd.func31 (by kernel_rfl) rfl #[.int .i64 t175, .int .u8 97] rfl (by (try simp only [List.map_toArray, List.map_cons, List.map_nil]); first | done | rfl | (simp only [List.length_drop, List.length_take]; rfl)) ?_; (with_reducible refine (lockkeeperlaw0_Text.calls k2 t175 97 t180 _ A30.out).mono ?_); rintro e w32 ⟨rfl, hb⟩; refine ⟨_, rfl, ?_⟩; have n0_ := Aside0.mk (below_step (by repeat (first | (with_reducible first | exact HB.out | apply below_alloc | apply pw_below_drewN | apply below_drew1) | exact HB.out)) hb); clear HB; have HB := n0_; clear n0_; (try clear hb); (try clear hb2); (try clear hk); (try clear hi)))
                        go_roundg k2
                        case measure => have := HJ1.out; have := HK2.out; omega
                        case rel => exact ⟨((x3_2 ++ (⟨#[46]⟩ : ByteArray)) ++ t180), (false), (wrap64 (x5_2 + 1)), (by first | rfl | (simp; done) | (simp [*]; done)), (by first | rfl | (simp; done) | (simp [*]; done)), (by first | rfl | (simp; done) | (simp [*]; done)), H', ⟨by have := HJ1.out; have := HK2.out; omega⟩, ⟨by repeat (first | (with_reducible first | exact HB.out | apply below_alloc | apply pw_below_drewN | apply below_drew1) | exact HB.out)⟩⟩
                      · rw [if_neg c31] at H
                        exact absurd H (by simp)
                    · rw [if_neg c29] at H
                      exact absurd H (by simp)
                  · rw [if_neg c28] at H
                    have c28b0 : decide (0 < x5_2) = false := decide_eq_false c28
                    clear c28
                    replace H := Option.bind_eq_some_iff.mp H
                    obtain ⟨t181, A330, H⟩ := H
                    replace H : (if x3_2.size + t181.size ≤ 9223372036854775807 then (lockkeeperlaw3_OriginLabels.l0 k2 l0 (x3_2 ++ t181) false (wrap64 (x5_2 + 1))) else (none)) = some r := H
                    have A33 := Aside0.mk A330
                    clear A330
                    by_cases c34 : x3_2.size + t181.size ≤ 9223372036854775807
                    · rw [if_pos c34] at H
                      have c34b0 := eq_true c34
                      have c34b1 : decide (x3_2.size + t181.size ≤ 9223372036854775807) = true := decide_eq_true c34
                      try have c34b2 : (9223372036854775807 < x3_2.size + t181.size) = False := eq_false (Nat.not_lt.2 c34)
                      have H' := Aside0.mk H
                      clear H
                      have p174 : 0 ≤ (x5_2 : Int) := of_decide_eq_true (by first | (with_reducible assumption) | assumption)
                      have q174 : x5_2 < (l0.length : Int) := of_decide_eq_true (by first | (with_reducible assumption) | assumption)
                      obtain ⟨ad174, e174, hx174_0⟩ := Kd.at_int HR0.out x5_2 p174 q174
                      cases e174
                      replace hx174_0 := (HB.out.cell (World.block_lt_of_cell? w _ hx174_0)).trans hx174_0
                      replace p174 := eq_true p174
                      replace q174 := eq_true q174
                      go_wp2_with (first | ((with_reducible refine gate_callee (f := 30) rfl ?_); refine goesL_ (some 26) rfl rfl Tryd.func30 (by kernel_rfl) rfl #[.int .i64 (rd l0 x5_2), .int .i64 66] rfl (by (try simp only [List.map_toArray, List.map_cons, List.map_nil]); first | done | rfl | (simp only [List.length_drop, List.length_take]; rfl)) ?_; (with_reducible refine (lockkeeperlaw0_Low.calls (rd l0 x5_2) 66 t175 _ A9.out).mono ?_); rintro e w' ⟨rfl, ⟨nd, rfl⟩⟩; refine ⟨_, rfl, ?_⟩) | ((with_reducible refine gate_callee (f := 31) rfl ?_); refine goesL_ (some 42) rfl rfl Tryd.func31 (by kernel_rfl) rfl #[.int .i64 t175, .int .u8 97] rfl (by (try simp only [List.map_toArray, List.map_cons, List.map_nil]); first | done | rfl | (simp only [List.length_drop, List.length_take]; rfl)) ?_; (with_reducible refine (lockkeeperlaw0_Text.calls k2 t175 97 t181 _ A33.out).mono ?_); rintro e w35 ⟨rfl, hb⟩; refine ⟨_, rfl, ?_⟩; have n0_ := Aside0.mk (below_step (by repeat (first | (with_reducible first | exact HB.out | apply below_alloc | apply pw_below_drewN | apply below_drew1) | exact HB.out)) hb); clear HB; have HB := n0_; clear n0_; (try clear hb); (try clear hb2); (try clear hk); (try clear hi)))
                      go_roundg k2
                      case measure => have := HJ1.out; have := HK2.out; omega
                      case rel => exact ⟨(x3_2 ++ t181), (false), (wrap64 (x5_2 + 1)), (by first | rfl | (simp; done) | (simp [*]; done)), (by first | rfl | (simp; done) | (simp [*]; done)), (by first | rfl | (simp; done) | (simp [*]; done)), H', ⟨by have := HJ1.out; have := HK2.out; omega⟩, ⟨by repeat (first | (with_reducible first | exact HB.out | apply below_alloc | apply pw_below_drewN | apply below_drew1) | exact HB.out)⟩⟩
                    · rw [if_neg c34] at H
                      exact absurd H (by simp)
              · rw [if_neg c8] at H
                exact absurd H (by simp)
            · rw [if_neg c7] at H
              have c7b0 : decide (x5_2 < (l0.length : Int)) = false := decide_eq_false c7
              clear c7
              replace H := Option.bind_eq_some_iff.mp H
              obtain ⟨t171, A360, H⟩ := H
              replace H : (if x4_2 = true then (if (t171 == (decide ((x3_2.size : Int) ≤ 253))) = true then ((lockkeeperlaw3_awake.f k2).bind fun t172 => (some t172)) else (some false)) else (if (t171 == false) = true then ((lockkeeperlaw3_awake.f k2).bind fun t173 => (some t173)) else (some false))) = some r := H
              have A36 := Aside0.mk A360
              clear A360
              by_cases c37 : x4_2 = true
              · subst c37
                have H1 : (if (t171 == (decide ((x3_2.size : Int) ≤ 253))) = true then ((lockkeeperlaw3_awake.f k2).bind fun t172 => (some t172)) else (some false)) = some r := by rw [if_pos rfl] at H; exact H
                clear H
                have H := H1
                clear H1
                by_cases c38 : (t171 == (decide ((x3_2.size : Int) ≤ 253))) = true
                · rw [if_pos c38] at H
                  have c38b0 : (t171 == (decide ((x3_2.size : Int) ≤ 253))) = true := c38
                  (try (have c38b1 : decide (t171 = (decide ((x3_2.size : Int) ≤ 253))) = true := by simpa using c38))
                  (try (have c38b2 : (t171 == (decide ((x3_2.size : Int) ≤ 253))) = true := by simpa using c38))
                  clear c38
                  replace H := Option.bind_eq_some_iff.mp H
                  obtain ⟨t172, A390, H⟩ := H
                  replace H : (some t172) = some r := H
                  have A39 := Aside0.mk A390
                  clear A390
                  obtain rfl := Option.some.inj H
                  go_wp2_with (first | ((with_reducible refine gate_callee (f := 21) rfl ?_); refine goesL_ (some 46) rfl rfl Tryd.func21 (by kernel_rfl) rfl #[.agg #[.string (⟨#[104, 116, 116, 112]⟩ : ByteArray), .string x3_2, .int .i64 1]] rfl (by (try simp only [List.map_toArray, List.map_cons, List.map_nil]); first | done | rfl | (simp only [List.length_drop, List.length_take]; rfl)) ?_; (with_reducible refine (origin_Check.calls k2 (⟨#[104, 116, 116, 112]⟩ : ByteArray) x3_2 1 t171 _ A36.out).mono ?_); rintro e w40 ⟨rfl, hb⟩; refine ⟨_, rfl, ?_⟩; have n0_ := Aside0.mk (below_step (by repeat (first | (with_reducible first | exact HB.out | apply below_alloc | apply pw_below_drewN | apply below_drew1) | exact HB.out)) hb); clear HB; have HB := n0_; clear n0_; (try clear hb); (try clear hb2); (try clear hk); (try clear hi)) | (go_at_call 18; (with_reducible refine (lockkeeperlaw3_awake.calls k2  t172 _ ?side1 A39.out).mono ?_); (case side1 => exact ⟨by repeat (first | exact hM_.out | exact LaidW.below hM_.out HB.out | (with_reducible refine LaidW.alloc ?_ _) | (with_reducible refine LaidW.drewN ?_ _) | (with_reducible refine LaidW.drew ?_) | exact LaidW.below hM_.out (by repeat (first | (with_reducible first | exact HB.out | apply below_alloc | apply pw_below_drewN | apply below_drew1) | exact HB.out)))⟩); rintro e w41 ⟨rfl, hb⟩; have n0_ := Aside0.mk (below_step (by repeat (first | (with_reducible first | exact HB.out | apply below_alloc | apply pw_below_drewN | apply below_drew1) | exact HB.out)) hb); clear HB; have HB := n0_; clear n0_; (try clear hb); (try clear hb2); (try clear hk); (try clear hi)))
                  go_ret
                  exact ⟨by first | rfl | (simp [errW_none, errW_some] <;> rfl) | (simp [*, errW_none, errW_some] <;> rfl), by repeat (first | (with_reducible first | exact HB.out | apply below_alloc | apply pw_below_drewN | apply below_drew1) | exact HB.out)⟩
                · rw [if_neg c38] at H
                  have c38b0 : (t171 == (decide ((x3_2.size : Int) ≤ 253))) = false := by simpa using c38
                  (try (have c38b1 : decide (t171 = (decide ((x3_2.size : Int) ≤ 253))) = false := by simpa using c38))
                  (try (have c38b2 : (t171 == (decide ((x3_2.size : Int) ≤ 253))) = false := by simpa using c38))
                  (try (have c38b3 : ¬ (t171 = (decide ((x3_2.size : Int) ≤ 253))) := by simpa using c38))
                  clear c38
                  obtain rfl := Option.some.inj H
                  go_wp2_with (first | ((with_reducible refine gate_callee (f := 21) rfl ?_); refine goesL_ (some 46) rfl rfl Tryd.func21 (by kernel_rfl) rfl #[.agg #[.string (⟨#[104, 116, 116, 112]⟩ : ByteArray), .string x3_2, .int .i64 1]] rfl (by (try simp only [List.map_toArray, List.map_cons, List.map_nil]); first | done | rfl | (simp only [List.length_drop, List.length_take]; rfl)) ?_; (with_reducible refine (origin_Check.calls k2 (⟨#[104, 116, 116, 112]⟩ : ByteArray) x3_2 1 t171 _ A36.out).mono ?_); rintro e w42 ⟨rfl, hb⟩; refine ⟨_, rfl, ?_⟩; have n0_ := Aside0.mk (below_step (by repeat (first | (with_reducible first | exact HB.out | apply below_alloc | apply pw_below_drewN | apply below_drew1) | exact HB.out)) hb); clear HB; have HB := n0_; clear n0_; (try clear hb); (try clear hb2); (try clear hk); (try clear hi)))
                  go_ret
                  exact ⟨by first | rfl | (simp [errW_none, errW_some] <;> rfl) | (simp [*, errW_none, errW_some] <;> rfl), by repeat (first | (with_reducible first | exact HB.out | apply below_alloc | apply pw_below_drewN | apply below_drew1) | exact HB.out)⟩
              · replace c37 := Bool.eq_false_iff.mpr c37
                subst c37
                have H1 : (if (t171 == false) = true then ((lockkeeperlaw3_awake.f k2).bind fun t173 => (some t173)) else (some false)) = some r := by rw [if_neg (show ¬ (false = true) by decide)] at H; exact H
                clear H
                have H := H1
                clear H1
                by_cases c43 : (t171 == false) = true
                · rw [if_pos c43] at H
                  have c43b0 : (t171 == false) = true := c43
                  try have c43b6 : (t171) = true := by have z_ := c43b0; first | exact z_ | simpa using z_
                  try have c43b6 : (t171) = false := by have z_ := c43b0; first | exact z_ | simpa using z_
                  (try (have c43b1 : decide (t171 = false) = true := by simpa using c43))
                  (try (have c43b2 : (t171 == false) = true := by simpa using c43))
                  clear c43
                  replace H := Option.bind_eq_some_iff.mp H
                  obtain ⟨t173, A440, H⟩ := H
                  replace H : (some t173) = some r := H
                  have A44 := Aside0.mk A440
                  clear A440
                  obtain rfl := Option.some.inj H
                  go_wp2_with (first | ((with_reducible refine gate_callee (f := 21) rfl ?_); refine goesL_ (some 46) rfl rfl Tryd.func21 (by kernel_rfl) rfl #[.agg #[.string (⟨#[104, 116, 116, 112]⟩ : ByteArray), .string x3_2, .int .i64 1]] rfl (by (try simp only [List.map_toArray, List.map_cons, List.map_nil]); first | done | rfl | (simp only [List.length_drop, List.length_take]; rfl)) ?_; (with_reducible refine (origin_Check.calls k2 (⟨#[104, 116, 116, 112]⟩ : ByteArray) x3_2 1 t171 _ A36.out).mono ?_); rintro e w45 ⟨rfl, hb⟩; refine ⟨_, rfl, ?_⟩; have n0_ := Aside0.mk (below_step (by repeat (first | (with_reducible first | exact HB.out | apply below_alloc | apply pw_below_drewN | apply below_drew1) | exact HB.out)) hb); clear HB; have HB := n0_; clear n0_; (try clear hb); (try clear hb2); (try clear hk); (try clear hi)) | (go_at_call 18; (with_reducible refine (lockkeeperlaw3_awake.calls k2  t173 _ ?side1 A44.out).mono ?_); (case side1 => exact ⟨by repeat (first | exact hM_.out | exact LaidW.below hM_.out HB.out | (with_reducible refine LaidW.alloc ?_ _) | (with_reducible refine LaidW.drewN ?_ _) | (with_reducible refine LaidW.drew ?_) | exact LaidW.below hM_.out (by repeat (first | (with_reducible first | exact HB.out | apply below_alloc | apply pw_below_drewN | apply below_drew1) | exact HB.out)))⟩); rintro e w46 ⟨rfl, hb⟩; have n0_ := Aside0.mk (below_step (by repeat (first | (with_reducible first | exact HB.out | apply below_alloc | apply pw_below_drewN | apply below_drew1) | exact HB.out)) hb); clear HB; have HB := n0_; clear n0_; (try clear hb); (try clear hb2); (try clear hk); (try clear hi)))
                  go_ret
                  exact ⟨by first | rfl | (simp [errW_none, errW_some] <;> rfl) | (simp [*, errW_none, errW_some] <;> rfl), by repeat (first | (with_reducible first | exact HB.out | apply below_alloc | apply pw_below_drewN | apply below_drew1) | exact HB.out)⟩
                · rw [if_neg c43] at H
                  have c43b0 : (t171 == false) = false := by simpa using c43
                  try have c43b6 : (t171) = true := by have z_ := c43b0; first | exact z_ | simpa using z_
                  try have c43b6 : (t171) = false := by have z_ := c43b0; first | exact z_ | simpa using z_
                  (try (have c43b1 : decide (t171 = false) = false := by simpa using c43))
                  (try (have c43b2 : (t171 == false) = false := by simpa using c43))
                  (try (have c43b3 : ¬ (t171 = false) := by simpa using c43))
                  clear c43
                  obtain rfl := Option.some.inj H
                  go_wp2_with (first | ((with_reducible refine gate_callee (f := 21) rfl ?_); refine goesL_ (some 46) rfl rfl Tryd.func21 (by kernel_rfl) rfl #[.agg #[.string (⟨#[104, 116, 116, 112]⟩ : ByteArray), .string x3_2, .int .i64 1]] rfl (by (try simp only [List.map_toArray, List.map_cons, List.map_nil]); first | done | rfl | (simp only [List.length_drop, List.length_take]; rfl)) ?_; (with_reducible refine (origin_Check.calls k2 (⟨#[104, 116, 116, 112]⟩ : ByteArray) x3_2 1 t171 _ A36.out).mono ?_); rintro e w47 ⟨rfl, hb⟩; refine ⟨_, rfl, ?_⟩; have n0_ := Aside0.mk (below_step (by repeat (first | (with_reducible first | exact HB.out | apply below_alloc | apply pw_below_drewN | apply below_drew1) | exact HB.out)) hb); clear HB; have HB := n0_; clear n0_; (try clear hb); (try clear hb2); (try clear hk); (try clear hi)))
                  go_ret
                  exact ⟨by first | rfl | (simp [errW_none, errW_some] <;> rfl) | (simp [*, errW_none, errW_some] <;> rfl), by repeat (first | (with_reducible first | exact HB.out | apply below_alloc | apply pw_below_drewN | apply below_drew1) | exact HB.out)⟩

end Go.Proofs.YtbfbidifodcedaaDoor.Pr
