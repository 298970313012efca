-- Made by a program of this session (wip/xp/xp.py), over the print's words.
import Derived.Test.YtojcceafgkdchaaDoorPr0
import Derived.Test.YtojcceafgkdchaaDoorPr1
import Derived.Test.YtojcceafgkdchaaDoorPr2
import Derived.Test.YtojcceafgkdchaaDoorPr10
import Derived.Test.YtojcceafgkdchaaDoorPr12
namespace Go.Proofs.YtojcceafgkdchaaDoor.Pr
open Go.RowKit Go.Proofs.YtojcceafgkdchaaDoorW.PrintWords Go.Proofs.YtojcceafgkdchaaDoorW.PrintLast Go.Proofs.YtojcceafgkdchaaDoorW.PrintMore
attribute [local go_sem] max2_int min2_int max_two min_two max_three min_three max_four min_four   -- for this text's walks alone
set_option linter.unusedVariables false
set_option linter.unusedSimpArgs false

/-! ### lockkeeperlaw1_OctetDigits: function 5 -/
mutual
def lockkeeperlaw1_OctetDigits.j0 : Nat → Int → Int → ByteArray → Bool → Option (Bool)
  | 0, _, _, _, _ => none
  | k + 1, x2, x3, x9, x32 => if x32 = true then (some false) else ((lockkeeperlaw0_Low.f x2 (wrap64 ((x9.size : Int) + 1))).bind fun t218 => (if x3 ≥ 48 then (lockkeeperlaw1_OctetDigits.j1 k x3 x9 t218 (decide (x3 ≤ 57))) else (lockkeeperlaw1_OctetDigits.j1 k x3 x9 t218 false)))
def lockkeeperlaw1_OctetDigits.j1 : Nat → Int → ByteArray → Int → Bool → Option (Bool)
  | 0, _, _, _, _ => none
  | k + 1, x3, x9, x12, x43 => if x43 = true then ((lockkeeperlaw1_awake.f k).bind fun t219 => (some t219)) else (if 0 ≤ x12 then (if x12 ≤ (x9.size : Int) then ((some (([x3] : List Int) : List Int)).bind fun y220 => (if (x9.extract 0 (x12 : Int).toNat).size + (strOfNums y220).size ≤ 9223372036854775807 then (if ((x9.extract 0 (x12 : Int).toNat) ++ (strOfNums y220)).size + (x9.extract (x12 : Int).toNat x9.size).size ≤ 9223372036854775807 then ((octet_Digits.f k (((x9.extract 0 (x12 : Int).toNat) ++ (strOfNums y220)) ++ (x9.extract (x12 : Int).toNat x9.size))).bind fun bt223 => (if bt223.2 = true then (some false) else (if bt223.1 = 0 then ((lockkeeperlaw1_awake.f k).bind fun t225 => (some t225)) else (some false)))) else (none)) else (none))) else (none)) else (none))
end
def lockkeeperlaw1_OctetDigits.f (k : Nat) (a0 : Int) (a1 : Int) (a2 : Int) (a3 : Int) : Option (Bool) := (lockkeeperlaw0_Low.f a1 30).bind fun t213 => ((lockkeeperlaw0_Text.f k t213 48).bind fun t214 => ((lockkeeperref1_Num.f k a0).bind fun t215 => (if t214.size + t215.size ≤ 9223372036854775807 then ((octet_Digits.f k (t214 ++ t215)).bind fun bt216 => (if bt216.2 = true then (lockkeeperlaw1_OctetDigits.j0 k a2 a3 (t214 ++ t215) (bt216.1 != a0)) else (lockkeeperlaw1_OctetDigits.j0 k a2 a3 (t214 ++ t215) true))) else (none))))
theorem lockkeeperlaw1_OctetDigits.mono_l : ∀ k, (∀ y0 y1 y2 y3, LeO (lockkeeperlaw1_OctetDigits.j0 k y0 y1 y2 y3) (lockkeeperlaw1_OctetDigits.j0 (k + 1) y0 y1 y2 y3)) ∧ (∀ y0 y1 y2 y3, LeO (lockkeeperlaw1_OctetDigits.j1 k y0 y1 y2 y3) (lockkeeperlaw1_OctetDigits.j1 (k + 1) y0 y1 y2 y3))
  | 0 => ⟨fun _ _ _ _ r h => by simp [lockkeeperlaw1_OctetDigits.j0] at h, fun _ _ _ _ r h => by simp [lockkeeperlaw1_OctetDigits.j1] at h⟩
  | k + 1 => by
    obtain ⟨ih0, ih1⟩ := lockkeeperlaw1_OctetDigits.mono_l k
    refine ⟨?_, ?_⟩
    · intro y0 y1 y2 y3
      unfold lockkeeperlaw1_OctetDigits.j0
      repeat' first
      | (with_reducible exact ih0 _ _ _ _)
      | (with_reducible exact ih1 _ _ _ _)
      | (with_reducible exact lockkeeperlaw0_Text.mono _ _ _)
      | (with_reducible exact lockkeeperlaw1_awake.mono _)
      | (with_reducible exact lockkeeperref1_Num.mono _ _)
      | (with_reducible exact octet_Digits.mono _ _)
      | (with_reducible exact LeO.refl _)
      | (with_reducible exact LeO.none _)
      | (with_reducible refine LeO.ite ?_ ?_)
      | (with_reducible refine LeO.bind ?_ (fun _ => ?_))
      | exact ih0 _ _ _ _
      | exact ih1 _ _ _ _
      | exact lockkeeperlaw0_Text.mono _ _ _
      | exact lockkeeperlaw1_awake.mono _
      | exact lockkeeperref1_Num.mono _ _
      | exact octet_Digits.mono _ _
      | exact LeO.none _
      | refine LeO.ite ?_ ?_
      | refine LeO.bind ?_ (fun _ => ?_)
    · intro y0 y1 y2 y3
      unfold lockkeeperlaw1_OctetDigits.j1
      repeat' first
      | (with_reducible exact ih0 _ _ _ _)
      | (with_reducible exact ih1 _ _ _ _)
      | (with_reducible exact lockkeeperlaw0_Text.mono _ _ _)
      | (with_reducible exact lockkeeperlaw1_awake.mono _)
      | (with_reducible exact lockkeeperref1_Num.mono _ _)
      | (with_reducible exact octet_Digits.mono _ _)
      | (with_reducible exact LeO.refl _)
      | (with_reducible exact LeO.none _)
      | (with_reducible refine LeO.ite ?_ ?_)
      | (with_reducible refine LeO.bind ?_ (fun _ => ?_))
      | exact ih0 _ _ _ _
      | exact ih1 _ _ _ _
      | exact lockkeeperlaw0_Text.mono _ _ _
      | exact lockkeeperlaw1_awake.mono _
      | exact lockkeeperref1_Num.mono _ _
      | exact octet_Digits.mono _ _
      | exact LeO.none _
      | refine LeO.ite ?_ ?_
      | refine LeO.bind ?_ (fun _ => ?_)
theorem lockkeeperlaw1_OctetDigits.mono : ∀ a0 a1 a2 a3 k, LeO (lockkeeperlaw1_OctetDigits.f k a0 a1 a2 a3) (lockkeeperlaw1_OctetDigits.f (k + 1) a0 a1 a2 a3) := by
  intro a0 a1 a2 a3 k
  obtain ⟨ih0, ih1⟩ := lockkeeperlaw1_OctetDigits.mono_l k
  unfold lockkeeperlaw1_OctetDigits.f
  repeat' first
      | (with_reducible exact ih0 _ _ _ _)
      | (with_reducible exact ih1 _ _ _ _)
      | (with_reducible exact lockkeeperlaw0_Text.mono _ _ _)
      | (with_reducible exact lockkeeperlaw1_awake.mono _)
      | (with_reducible exact lockkeeperref1_Num.mono _ _)
      | (with_reducible exact octet_Digits.mono _ _)
      | (with_reducible exact LeO.refl _)
      | (with_reducible exact LeO.none _)
      | (with_reducible refine LeO.ite ?_ ?_)
      | (with_reducible refine LeO.bind ?_ (fun _ => ?_))
      | exact ih0 _ _ _ _
      | exact ih1 _ _ _ _
      | exact lockkeeperlaw0_Text.mono _ _ _
      | exact lockkeeperlaw1_awake.mono _
      | exact lockkeeperref1_Num.mono _ _
      | exact octet_Digits.mono _ _
      | exact LeO.none _
      | refine LeO.ite ?_ ?_
      | refine LeO.bind ?_ (fun _ => ?_)
def lockkeeperlaw1_OctetDigits.T8 : Bool × List (List Nat × List Nat) := (true, [([], []), ([], []), ([0, 1], [0, 1]), ([], []), ([3], [3]), ([4], [4]), ([2, 5], [2, 5]), ([], []), ([], []), ([7, 8], [7, 8]), ([6, 9], [6, 9]), ([10], [10]), ([11], [11]), ([12], [12]), ([12], [12]), ([13, 11, 0, 1, 2, 3, 4, 5, 6, 7, 8, 9, 10, 11, 12, 13], [13]), ([14, 15, 0, 1, 2, 3, 4, 5, 6, 7, 8, 9, 10, 11, 12, 13, 14, 15], [14])])
def lockkeeperlaw1_OctetDigits.B8 : List Nat := [0, 0, 3, 0, 8, 24, 63, 0, 0, 384, 1023, 2047, 4095, 8191, 8191, 16383, 65535]
theorem lockkeeperlaw1_OctetDigits.tab8 : rtab .any (opsOf Tryd.f5 8) = lockkeeperlaw1_OctetDigits.T8 := by kernel_rfl
theorem lockkeeperlaw1_OctetDigits.bits8 : waitsOk lockkeeperlaw1_OctetDigits.T8.2 lockkeeperlaw1_OctetDigits.B8 = true := by kernel_rfl
set_option maxHeartbeats 8000000 in
set_option maxRecDepth 100000 in
theorem lockkeeperlaw1_OctetDigits.calls (k : Nat) (a0 : Int) (a1 : Int) (a2 : Int) (a3 : Int) (r : Bool) (w : World) (hr_ : r = true) (h : lockkeeperlaw1_OctetDigits.f k a0 a1 a2 a3 = some r) :
    Calls Tryd.prog 5 #[.int .u64 a0, .int .i64 a1, .int .i64 a2, .int .u8 a3] w fun e w' => e = .returned (.bool r) ∧ Below w.heap.size w w' := by
  have HB := Aside0.mk (Below.refl w.heap.size w)
  have H : ((lockkeeperlaw0_Low.f a1 30).bind fun t213 => ((lockkeeperlaw0_Text.f k t213 48).bind fun t214 => ((lockkeeperref1_Num.f k a0).bind fun t215 => (if t214.size + t215.size ≤ 9223372036854775807 then ((octet_Digits.f k (t214 ++ t215)).bind fun bt216 => (if bt216.2 = true then (lockkeeperlaw1_OctetDigits.j0 k a2 a3 (t214 ++ t215) (bt216.1 != a0)) else (lockkeeperlaw1_OctetDigits.j0 k a2 a3 (t214 ++ t215) true))) else (none))))) = some r := h
  clear h
  replace H := Option.bind_eq_some_iff.mp H
  obtain ⟨t213, A50, H⟩ := H
  replace H : ((lockkeeperlaw0_Text.f k t213 48).bind fun t214 => ((lockkeeperref1_Num.f k a0).bind fun t215 => (if t214.size + t215.size ≤ 9223372036854775807 then ((octet_Digits.f k (t214 ++ t215)).bind fun bt216 => (if bt216.2 = true then (lockkeeperlaw1_OctetDigits.j0 k a2 a3 (t214 ++ t215) (bt216.1 != a0)) else (lockkeeperlaw1_OctetDigits.j0 k a2 a3 (t214 ++ t215) true))) else (none)))) = some r := H
  have A5 := Aside0.mk A50
  clear A50
  replace H := Option.bind_eq_some_iff.mp H
  obtain ⟨t214, A60, H⟩ := H
  replace H : ((lockkeeperref1_Num.f k a0).bind fun t215 => (if t214.size + t215.size ≤ 9223372036854775807 then ((octet_Digits.f k (t214 ++ t215)).bind fun bt216 => (if bt216.2 = true then (lockkeeperlaw1_OctetDigits.j0 k a2 a3 (t214 ++ t215) (bt216.1 != a0)) else (lockkeeperlaw1_OctetDigits.j0 k a2 a3 (t214 ++ t215) true))) else (none))) = some r := H
  have A6 := Aside0.mk A60
  clear A60
  replace H := Option.bind_eq_some_iff.mp H
  obtain ⟨t215, A70, H⟩ := H
  replace H : (if t214.size + t215.size ≤ 9223372036854775807 then ((octet_Digits.f k (t214 ++ t215)).bind fun bt216 => (if bt216.2 = true then (lockkeeperlaw1_OctetDigits.j0 k a2 a3 (t214 ++ t215) (bt216.1 != a0)) else (lockkeeperlaw1_OctetDigits.j0 k a2 a3 (t214 ++ t215) true))) else (none)) = some r := H
  have A7 := Aside0.mk A70
  clear A70
  by_cases c8 : t214.size + t215.size ≤ 9223372036854775807
  · rw [if_pos c8] at H
    have c8b0 := eq_true c8
    have c8b1 : decide (t214.size + t215.size ≤ 9223372036854775807) = true := decide_eq_true c8
    try have c8b2 : (9223372036854775807 < t214.size + t215.size) = False := eq_false (Nat.not_lt.2 c8)
    replace H := Option.bind_eq_some_iff.mp H
    obtain ⟨⟨t216, t217⟩, A90, H⟩ := H
    replace H : (if t217 = true then (lockkeeperlaw1_OctetDigits.j0 k a2 a3 (t214 ++ t215) (t216 != a0)) else (lockkeeperlaw1_OctetDigits.j0 k a2 a3 (t214 ++ t215) true)) = some r := H
    have A9 := Aside0.mk A90
    clear A90
    have HC10 := Aside0.mk H
    clear H
    go_enter Tryd.func5, Tryd.ntmps5
    go_upto_region 3 with (first | ((with_reducible refine gate_callee (f := 23) rfl ?_); refine goesL_ (some 16) rfl rfl Tryd.func23 (by kernel_rfl) rfl #[.int .i64 a1, .int .i64 30] rfl (by (try simp only [List.map_toArray, List.map_cons, List.map_nil]); first | done | rfl | (simp only [List.length_drop, List.length_take]; rfl)) ?_; (with_reducible refine (lockkeeperlaw0_Low.calls a1 30 t213 _ A5.out).mono ?_); rintro e w' ⟨rfl, ⟨nd, rfl⟩⟩; refine ⟨_, rfl, ?_⟩) | ((with_reducible refine gate_callee (f := 25) rfl ?_); refine goesL_ (some 17) rfl rfl Tryd.func25 (by kernel_rfl) rfl #[.int .i64 t213, .int .u8 48] rfl (by (try simp only [List.map_toArray, List.map_cons, List.map_nil]); first | done | rfl | (simp only [List.length_drop, List.length_take]; rfl)) ?_; (with_reducible refine (lockkeeperlaw0_Text.calls k t213 48 t214 _ A6.out).mono ?_); rintro e w11 ⟨rfl, hb⟩; refine ⟨_, rfl, ?_⟩; have n0_ := Aside0.mk (below_step (by repeat (first | (with_reducible first | exact HB.out | apply below_alloc | apply pw_below_drewN | apply below_drew1) | exact HB.out)) hb); clear HB; have HB := n0_; clear n0_; (try clear hb); (try clear hb2); (try clear hk); (try clear hi)) | ((with_reducible refine gate_callee (f := 26) rfl ?_); refine goesL_ (some 19) rfl rfl Tryd.func26 (by kernel_rfl) rfl #[.int .u64 a0] rfl (by (try simp only [List.map_toArray, List.map_cons, List.map_nil]); first | done | rfl | (simp only [List.length_drop, List.length_take]; rfl)) ?_; (with_reducible refine (lockkeeperref1_Num.calls k a0 t215 _ A7.out).mono ?_); rintro e w' ⟨rfl, ⟨nd, rfl⟩⟩; refine ⟨_, rfl, ?_⟩) | ((with_reducible refine gate_callee (f := 27) rfl ?_); refine goesL_ (some 23) rfl rfl Tryd.func27 (by kernel_rfl) rfl #[.string (t214 ++ t215)] rfl (by (try simp only [List.map_toArray, List.map_cons, List.map_nil]); first | done | rfl | (simp only [List.length_drop, List.length_take]; rfl)) ?_; (with_reducible refine (octet_Digits.calls k (t214 ++ t215) t216 t217 _ A9.out).mono ?_); rintro e w' ⟨rfl, ⟨nd, rfl⟩⟩; refine ⟨_, rfl, ?_⟩))
    (try simp only [Act.put, List.setIfInBounds_toArray, List.set_cons_zero, List.set_cons_succ])
    go_cut [32] (fun v32 wc => ∃ (kq : Nat) (x32_9 : Bool), v32 = .bool x32_9 ∧ Aside0 (lockkeeperlaw1_OctetDigits.j0 kq a2 a3 (t214 ++ t215) x32_9 = some r) ∧ Aside0 (kq ≤ k) ∧ Aside0 (Below w.heap.size w wc))
    case first =>
      have H := HC10.out
      clear HC10
      by_cases c12 : t217 = true
      · subst c12
        have H1 : (lockkeeperlaw1_OctetDigits.j0 k a2 a3 (t214 ++ t215) (t216 != a0)) = some r := by rw [if_pos rfl] at H; exact H
        clear H
        have H := H1
        clear H1
        have H' := Aside0.mk H
        clear H
        go_wp2
        go_meet
        case rel => exact ⟨_, ((t216 != a0)), (by first | rfl | (simp; done) | (simp [*]; done)), H', ⟨by first | omega | exact Nat.le_refl _⟩, ⟨by repeat (first | (with_reducible first | exact HB.out | apply below_alloc | apply pw_below_drewN | apply below_drew1) | exact HB.out)⟩⟩
      · replace c12 := Bool.eq_false_iff.mpr c12
        subst c12
        have H1 : (lockkeeperlaw1_OctetDigits.j0 k a2 a3 (t214 ++ t215) true) = some r := by rw [if_neg (show ¬ (false = true) by decide)] at H; exact H
        clear H
        have H := H1
        clear H1
        have H' := Aside0.mk H
        clear H
        go_wp2
        go_meet
        case rel => exact ⟨_, (true), (by first | rfl | (simp; done) | (simp [*]; done)), H', ⟨by first | omega | exact Nat.le_refl _⟩, ⟨by repeat (first | (with_reducible first | exact HB.out | apply below_alloc | apply pw_below_drewN | apply below_drew1) | exact HB.out)⟩⟩
    case rest =>
      clear HC10
      try clear c1
      try clear c2
      try clear p2
      try clear c5
      try clear c8
      try clear c8b0
      try clear c8b1
      try clear c8b2
      try clear c12
      obtain ⟨kq, x32_9, rfl, HA, HJ9, HB⟩ := hcut
      cases kq with
      | zero => exact absurd HA.out (by simp [lockkeeperlaw1_OctetDigits.j0])
      | succ kj9 =>
        have H := HA.out
        clear HA
        simp only [lockkeeperlaw1_OctetDigits.j0] at H
        by_cases c13 : x32_9 = true
        · subst c13
          have H1 : (some false) = some r := by rw [if_pos rfl] at H; exact H
          clear H
          have H := H1
          clear H1
          exact absurd ((Option.some.inj H).trans hr_) (by decide)
        · replace c13 := Bool.eq_false_iff.mpr c13
          subst c13
          have H1 : ((lockkeeperlaw0_Low.f a2 (wrap64 (((t214 ++ t215).size : Int) + 1))).bind fun t218 => (if a3 ≥ 48 then (lockkeeperlaw1_OctetDigits.j1 kj9 a3 (t214 ++ t215) t218 (decide (a3 ≤ 57))) else (lockkeeperlaw1_OctetDigits.j1 kj9 a3 (t214 ++ t215) t218 false))) = some r := by rw [if_neg (show ¬ (false = true) by decide)] at H; exact H
          clear H
          have H := H1
          clear H1
          replace H := Option.bind_eq_some_iff.mp H
          obtain ⟨t218, A140, H⟩ := H
          replace H : (if a3 ≥ 48 then (lockkeeperlaw1_OctetDigits.j1 kj9 a3 (t214 ++ t215) t218 (decide (a3 ≤ 57))) else (lockkeeperlaw1_OctetDigits.j1 kj9 a3 (t214 ++ t215) t218 false)) = some r := H
          have A14 := Aside0.mk A140
          clear A140
          have HC15 := Aside0.mk H
          clear H
          go_upto_region 6 with (first | ((with_reducible refine gate_callee (f := 23) rfl ?_); (try simp only [← Int.natCast_add, ← ByteArray.size_append]); refine goesL_ (some 37) rfl rfl Tryd.func23 (by kernel_rfl) rfl #[.int .i64 a2, .int .i64 (wrap64 (((t214 ++ t215).size : Int) + 1))] rfl (by (try simp only [List.map_toArray, List.map_cons, List.map_nil]); first | done | rfl | (simp only [List.length_drop, List.length_take]; rfl)) ?_; (with_reducible refine (lockkeeperlaw0_Low.calls a2 (wrap64 (((t214 ++ t215).size : Int) + 1)) t218 _ A14.out).mono ?_); rintro e w' ⟨rfl, ⟨nd, rfl⟩⟩; refine ⟨_, rfl, ?_⟩))
          (try simp only [Act.put, List.setIfInBounds_toArray, List.set_cons_zero, List.set_cons_succ])
          go_cut [43] (fun v43 wc => ∃ (kq : Nat) (x43_14 : Bool), v43 = .bool x43_14 ∧ Aside0 (lockkeeperlaw1_OctetDigits.j1 kq a3 (t214 ++ t215) t218 x43_14 = some r) ∧ Aside0 (kq ≤ kj9) ∧ Aside0 (Below w.heap.size w wc))
          case first =>
            have H := HC15.out
            clear HC15
            by_cases c16 : a3 ≥ 48
            · rw [if_pos c16] at H
              have c16b0 : decide (48 ≤ a3) = true := decide_eq_true c16
              clear c16
              (first | rw [c16b0] | (simp only [i64_w, i32_w]; rw [c16b0]) | skip)
              have H' := Aside0.mk H
              clear H
              go_wp2
              go_meet
              case rel => exact ⟨_, (decide (a3 ≤ 57)), (by first | rfl | (simp; done) | (simp [*]; done)), H', ⟨by have := HJ9.out; first | omega | exact Nat.le_refl _⟩, ⟨by repeat (first | (with_reducible first | exact HB.out | apply below_alloc | apply pw_below_drewN | apply below_drew1) | exact HB.out)⟩⟩
            · rw [if_neg c16] at H
              have c16b0 : decide (48 ≤ a3) = false := decide_eq_false c16
              clear c16
              (first | rw [c16b0] | (simp only [i64_w, i32_w]; rw [c16b0]) | skip)
              have H' := Aside0.mk H
              clear H
              go_wp2
              go_meet
              case rel => exact ⟨_, (false), (by first | rfl | (simp; done) | (simp [*]; done)), H', ⟨by have := HJ9.out; first | omega | exact Nat.le_refl _⟩, ⟨by repeat (first | (with_reducible first | exact HB.out | apply below_alloc | apply pw_below_drewN | apply below_drew1) | exact HB.out)⟩⟩
          case rest =>
            clear HC15
            try clear c1
            try clear c2
            try clear p2
            try clear c5
            try clear p6
            try clear c8
            try clear c8b0
            try clear c8b1
            try clear c8b2
            try clear c12
            try clear c13
            try clear c16
            try clear c16b0
            try clear p2
            obtain ⟨kq, x43_14, rfl, HA, HJ14, HB⟩ := hcut
            cases kq with
            | zero => exact absurd HA.out (by simp [lockkeeperlaw1_OctetDigits.j1])
            | succ kj14 =>
              have H := HA.out
              clear HA
              simp only [lockkeeperlaw1_OctetDigits.j1] at H
              by_cases c17 : x43_14 = true
              · subst c17
                have H1 : ((lockkeeperlaw1_awake.f kj14).bind fun t219 => (some t219)) = some r := by rw [if_pos rfl] at H; exact H
                clear H
                have H := H1
                clear H1
                replace H := Option.bind_eq_some_iff.mp H
                obtain ⟨t219, A180, H⟩ := H
                replace H : (some t219) = some r := H
                have A18 := Aside0.mk A180
                clear A180
                clear hr_
                obtain rfl := Option.some.inj H
                go_wp2_with (first | ((with_reducible refine gate_callee (f := 17) rfl ?_); refine goesL_ (some 44) rfl rfl Tryd.func17 (by kernel_rfl) rfl #[] rfl (by (try simp only [List.map_toArray, List.map_cons, List.map_nil]); first | done | rfl | (simp only [List.length_drop, List.length_take]; rfl)) ?_; (with_reducible refine (lockkeeperlaw1_awake.calls kj14  t219 _ A18.out).mono ?_); rintro e w19 ⟨rfl, hb⟩; refine ⟨_, rfl, ?_⟩; have n0_ := Aside0.mk (below_step (by repeat (first | (with_reducible first | exact HB.out | apply below_alloc | apply pw_below_drewN | apply below_drew1) | exact HB.out)) hb); clear HB; have HB := n0_; clear n0_; (try clear hb); (try clear hb2); (try clear hk); (try clear hi)))
                go_ret
                exact ⟨by first | rfl | (simp [errW_none, errW_some] <;> rfl) | (simp [*, errW_none, errW_some] <;> rfl), by repeat (first | (with_reducible first | exact HB.out | apply below_alloc | apply pw_below_drewN | apply below_drew1) | exact HB.out)⟩
              · replace c17 := Bool.eq_false_iff.mpr c17
                subst c17
                have H1 : (if 0 ≤ t218 then (if t218 ≤ ((t214 ++ t215).size : Int) then ((some (([a3] : List Int) : List Int)).bind fun y220 => (if ((t214 ++ t215).extract 0 (t218 : Int).toNat).size + (strOfNums y220).size ≤ 9223372036854775807 then (if (((t214 ++ t215).extract 0 (t218 : Int).toNat) ++ (strOfNums y220)).size + ((t214 ++ t215).extract (t218 : Int).toNat (t214 ++ t215).size).size ≤ 9223372036854775807 then ((octet_Digits.f kj14 ((((t214 ++ t215).extract 0 (t218 : Int).toNat) ++ (strOfNums y220)) ++ ((t214 ++ t215).extract (t218 : Int).toNat (t214 ++ t215).size))).bind fun bt223 => (if bt223.2 = true then (some false) else (if bt223.1 = 0 then ((lockkeeperlaw1_awake.f kj14).bind fun t225 => (some t225)) else (some false)))) else (none)) else (none))) else (none)) else (none)) = some r := by rw [if_neg (show ¬ (false = true) by decide)] at H; exact H
                clear H
                have H := H1
                clear H1
                by_cases c20 : 0 ≤ t218
                · rw [if_pos c20] at H
                  have c20b0 := eq_true c20
                  have c20b1 : decide (0 ≤ t218) = true := decide_eq_true c20
                  clear c20
                  by_cases c21 : t218 ≤ ((t214 ++ t215).size : Int)
                  · rw [if_pos c21] at H
                    try (have c21b5 := c21; simp only [ByteArray.size_append, Int.natCast_add] at c21b5)
                    have c21b0 := eq_true c21
                    have c21b1 : decide (t218 ≤ ((t214 ++ t215).size : Int)) = true := decide_eq_true c21
                    obtain ⟨y220, hy220⟩ : ∃ y_ : List Int, y_ = (([a3] : List Int)) := ⟨_, rfl⟩
                    replace H : (if ((t214 ++ t215).extract 0 (t218 : Int).toNat).size + (strOfNums y220).size ≤ 9223372036854775807 then (if (((t214 ++ t215).extract 0 (t218 : Int).toNat) ++ (strOfNums y220)).size + ((t214 ++ t215).extract (t218 : Int).toNat (t214 ++ t215).size).size ≤ 9223372036854775807 then ((octet_Digits.f kj14 ((((t214 ++ t215).extract 0 (t218 : Int).toNat) ++ (strOfNums y220)) ++ ((t214 ++ t215).extract (t218 : Int).toNat (t214 ++ t215).size))).bind fun bt223 => (if bt223.2 = true then (some false) else (if bt223.1 = 0 then ((lockkeeperlaw1_awake.f kj14).bind fun t225 => (some t225)) else (some false)))) else (none)) else (none)) = some r := by first | (rw [hy220]; with_reducible exact H) | (have H2_ := (Option.bind_some _ _).symm.trans H; rw [hy220]; with_reducible exact H2_) | (have H2_ := (Option.bind_some _ _).symm.trans H; with_reducible exact H2_) | with_reducible exact H | (rw [hy220]; exact H) | exact H
                    have Ny220 := Aside0.mk hy220
                    clear hy220
                    by_cases c22 : ((t214 ++ t215).extract 0 (t218 : Int).toNat).size + (strOfNums y220).size ≤ 9223372036854775807
                    · rw [if_pos c22] at H
                      try (have c22b5 := c22; simp only [ByteArray.size_append, Int.natCast_add] at c22b5)
                      have c22b0 := eq_true c22
                      have c22b1 : decide (((t214 ++ t215).extract 0 (t218 : Int).toNat).size + (strOfNums y220).size ≤ 9223372036854775807) = true := decide_eq_true c22
                      try have c22b2 : (9223372036854775807 < ((t214 ++ t215).extract 0 (t218 : Int).toNat).size + (strOfNums y220).size) = False := eq_false (Nat.not_lt.2 c22)
                      try (have c22b7 := c22b2; simp (disch := omega) only [ByteArray.size_append, ByteArray.size_extract, Nat.sub_zero, Nat.min_self, Nat.min_eq_left] at c22b7)
                      try (have c22b8 := c22b0; simp only [ByteArray.size_extract, Nat.min_self, Nat.sub_zero] at c22b8)
                      try have c22b3 : (9223372036854775807 < ((t214 ++ t215).extract 0 (t218 : Int).toNat).size + (strOfNums y220).size) = False := eq_false (Nat.not_lt.2 (by have z_ := c22; simp only [ByteArray.size_append] at z_; first | exact z_ | simpa using z_))
                      have c23b0 := eq_true (of_decide_eq_true (by first | (with_reducible assumption) | assumption) : 0 ≤ t218)
                      have c24b0 := eq_true (of_decide_eq_true (by first | (with_reducible assumption) | assumption) : t218 ≤ ((t214 ++ t215).size : Int))
                      by_cases c25 : (((t214 ++ t215).extract 0 (t218 : Int).toNat) ++ (strOfNums y220)).size + ((t214 ++ t215).extract (t218 : Int).toNat (t214 ++ t215).size).size ≤ 9223372036854775807
                      · rw [if_pos c25] at H
                        try (have c25b5 := c25; simp only [ByteArray.size_append, Int.natCast_add] at c25b5)
                        have c25b0 := eq_true c25
                        have c25b1 : decide ((((t214 ++ t215).extract 0 (t218 : Int).toNat) ++ (strOfNums y220)).size + ((t214 ++ t215).extract (t218 : Int).toNat (t214 ++ t215).size).size ≤ 9223372036854775807) = true := decide_eq_true c25
                        try have c25b2 : (9223372036854775807 < (((t214 ++ t215).extract 0 (t218 : Int).toNat) ++ (strOfNums y220)).size + ((t214 ++ t215).extract (t218 : Int).toNat (t214 ++ t215).size).size) = False := eq_false (Nat.not_lt.2 c25)
                        try (have c25b7 := c25b2; simp (disch := omega) only [ByteArray.size_append, ByteArray.size_extract, Nat.sub_zero, Nat.min_self, Nat.min_eq_left] at c25b7)
                        try (have c25b8 := c25b0; simp only [ByteArray.size_extract, Nat.min_self, Nat.sub_zero] at c25b8)
                        try have c25b3 : (9223372036854775807 < ((t214 ++ t215).extract 0 (t218 : Int).toNat).size + (strOfNums y220).size + ((t214 ++ t215).extract (t218 : Int).toNat (t214 ++ t215).size).size) = False := eq_false (Nat.not_lt.2 (by have z_ := c25; simp only [ByteArray.size_append] at z_; first | exact z_ | simpa using z_))
                        replace H := Option.bind_eq_some_iff.mp H
                        obtain ⟨⟨t223, t224⟩, A260, H⟩ := H
                        replace H : (if t224 = true then (some false) else (if t223 = 0 then ((lockkeeperlaw1_awake.f kj14).bind fun t225 => (some t225)) else (some false))) = some r := H
                        have A26 := Aside0.mk A260
                        clear A260
                        by_cases c27 : t224 = true
                        · subst c27
                          have H1 : (some false) = some r := by rw [if_pos rfl] at H; exact H
                          clear H
                          have H := H1
                          clear H1
                          exact absurd ((Option.some.inj H).trans hr_) (by decide)
                        · replace c27 := Bool.eq_false_iff.mpr c27
                          subst c27
                          have H1 : (if t223 = 0 then ((lockkeeperlaw1_awake.f kj14).bind fun t225 => (some t225)) else (some false)) = some r := by rw [if_neg (show ¬ (false = true) by decide)] at H; exact H
                          clear H
                          have H := H1
                          clear H1
                          by_cases c32 : t223 = 0
                          · rw [if_pos c32] at H
                            have c32b0 : (t223 == 0) = true := beq_iff_eq.mpr c32
                            have c32b1 : (t223 != 0) = false := bne_eq_false_iff_eq.mpr c32
                            clear c32
                            replace H := Option.bind_eq_some_iff.mp H
                            obtain ⟨t225, A330, H⟩ := H
                            replace H : (some t225) = some r := H
                            have A33 := Aside0.mk A330
                            clear A330
                            clear hr_
                            obtain rfl := Option.some.inj H
                            try go_wp2
                            have n0_ := Aside0.mk (below_drew1 HB.out)
                            clear HB
                            have HB := n0_
                            clear n0_
                            refine start_ (n := 17) (S := fun w' => True) (ds := []) #[false, false, false, false, false, false, false, false, false, false, false, false, false, false, false, false, false] (by kernel_rfl) rfl rfl trivial (fun hHeld => ?_); refine with_tabW lockkeeperlaw1_OctetDigits.tab8 lockkeeperlaw1_OctetDigits.bits8 (fun HT_ HW_ => ?_)
                            generalize wc.drew = w34 at HB hHeld ⊢
                            refine pure_ (i := 0) (N := some 46) (v := ?_) (a' := ?_) #[true, false, false, false, false, false, false, false, false, false, false, false, false, false, false, false, false] rfl rfl (any_of HT_.out (by kernel_rfl)) (fun _ _ _ h => h) (Or.inl ⟨by rfl, ?_⟩) ?_ ?_
                            rotate_left
                            · intro w'
                              go_simp
                              with_reducible rfl
                            rotate_left
                            · simp only [Act.put, List.setIfInBounds_toArray, List.set_cons_zero, List.set_cons_succ, i64_w, i32_w]
                              rfl
                            refine pure_ (i := 1) (N := some 47) (v := ?_) (a' := ?_) #[true, true, false, false, false, false, false, false, false, false, false, false, false, false, false, false, false] rfl rfl (any_of HT_.out (by kernel_rfl)) (fun _ _ _ h => h) (Or.inl ⟨by rfl, ?_⟩) ?_ ?_
                            rotate_left
                            · intro w'
                              go_simp
                              with_reducible rfl
                            rotate_left
                            · simp only [Act.put, List.setIfInBounds_toArray, List.set_cons_zero, List.set_cons_succ, i64_w, i32_w]
                              rfl
                            refine pure_ (i := 2) (N := some 48) (v := ?_) (a' := ?_) #[true, true, true, false, false, false, false, false, false, false, false, false, false, false, false, false, false] rfl rfl (any_of HT_.out (by kernel_rfl)) (fun _ _ _ h => h) (Or.inl ⟨by rfl, ?_⟩) ?_ ?_
                            rotate_left
                            · intro w'
                              go_simp
                              with_reducible rfl
                            rotate_left
                            · simp only [Act.put, List.setIfInBounds_toArray, List.set_cons_zero, List.set_cons_succ, i64_w, i32_w]
                              rfl
                            refine pure_ (i := 3) (N := some 49) (v := ?_) (a' := ?_) #[true, true, true, true, false, false, false, false, false, false, false, false, false, false, false, false, false] rfl rfl (any_of HT_.out (by kernel_rfl)) (fun _ _ _ h => h) (Or.inl ⟨by rfl, ?_⟩) ?_ ?_
                            rotate_left
                            · intro w'
                              go_simp
                              with_reducible rfl
                            rotate_left
                            · simp only [Act.put, List.setIfInBounds_toArray, List.set_cons_zero, List.set_cons_succ, i64_w, i32_w]
                              rfl
                            refine pure_ (i := 7) (N := some 53) (v := ?_) (a' := ?_) #[true, true, true, true, false, false, false, true, false, false, false, false, false, false, false, false, false] rfl rfl (any_of HT_.out (by kernel_rfl)) (fun _ _ _ h => h) (Or.inl ⟨by rfl, ?_⟩) ?_ ?_
                            rotate_left
                            · intro w'
                              go_simp
                              with_reducible rfl
                            rotate_left
                            · simp only [Act.put, List.setIfInBounds_toArray, List.set_cons_zero, List.set_cons_succ, i64_w, i32_w]
                              rfl
                            refine pure_ (i := 8) (N := some 54) (v := ?_) (a' := ?_) #[true, true, true, true, false, false, false, true, true, false, false, false, false, false, false, false, false] rfl rfl (any_of HT_.out (by kernel_rfl)) (fun _ _ _ h => h) (Or.inl ⟨by rfl, ?_⟩) ?_ ?_
                            rotate_left
                            · intro w'
                              go_simp
                              with_reducible rfl
                            rotate_left
                            · simp only [Act.put, List.setIfInBounds_toArray, List.set_cons_zero, List.set_cons_succ, i64_w, i32_w]
                              rfl
                            refine pure_ (i := 9) (N := some 55) (v := ?_) (a' := ?_) #[true, true, true, true, false, false, false, true, true, true, false, false, false, false, false, false, false] rfl rfl (any_of HT_.out (by kernel_rfl)) (fun _ _ _ h => h) (Or.inl ⟨by rfl, ?_⟩) ?_ ?_
                            rotate_left
                            · intro w'
                              go_simp
                              with_reducible rfl
                            rotate_left
                            · simp only [Act.put, List.setIfInBounds_toArray, List.set_cons_zero, List.set_cons_succ, i64_w, i32_w]
                              rfl
                            refine one_ (i := 4) (N := some 50) #[true, true, true, true, true, false, false, true, true, true, false, false, false, false, false, false, false] rfl rfl (one_of HT_.out (by kernel_rfl)) (by decide) (fun K hK => ?_)
                            refine Kd.R_lit_step (Kd.int .u8) _ 5 ?hg (N := 50) ?hd (xs := ([a3] : List Int)) (inner := [.int .u8 a3]) (ok := fun _ => True) (okp := fun _ => True) ?hr ?hp (fun _ hk => hk) trivial (Below.refl _ _) (Nat.le_refl _) (by simp) ?_; (case hd => rfl); (case hg => rfl); (case hr => first | (go_simp; done) | (go_simp; rfl)); (case hp => exact (Reps.one (show Kd.M (Kd.int .u8) _ _ _ a3 [.int .u8 a3] from rfl) (Reps.none _ _)))
                            intro v221 w35 ho36 hb hg_ hnew_
                            clear hg_ hnew_
                            (first | rw [← Ny220.out] at ho36 | (simp only [Int.reduceToNat] at ho36; rw [← Ny220.out] at ho36))
                            have n0_ := Aside0.mk (Kd.R_lower ho36 (below_size (by repeat (first | (with_reducible first | exact HB.out | apply below_alloc | apply pw_below_drewN | apply below_drew1) | exact HB.out))))
                            have n1_ := Aside0.mk (below_step (by repeat (first | (with_reducible first | exact HB.out | apply below_alloc | apply pw_below_drewN | apply below_drew1) | exact HB.out)) hb)
                            clear HB
                            have HO222 := n0_
                            have HB := n1_
                            clear n0_ n1_
                            clear hb ho36
                            refine hK.out _ _ trivial (fun hHeld => ?_)
                            clear hK K
                            refine norm_ (a' := ?_) ?_ ?_
                            rotate_left
                            · show Act.put _ (some 50) _ = _
                              simp only [Act.put, List.setIfInBounds_toArray, List.set_cons_zero, List.set_cons_succ, i64_w, i32_w]
                              rfl
                            refine one_ (i := 5) (N := some 51) #[true, true, true, true, true, true, false, true, true, true, false, false, false, false, false, false, false] rfl rfl (one_of HT_.out (by kernel_rfl)) (by decide) (fun K hK => ?_)
                            have hcv37 := own_string (P := Tryd.prog) Tryd.underlying39 Tryd.underlying5 Tryd.underlying9 (Kd.own_of_R HO222.out)
                            refine value_ (w1 := ?_) (v := ?_) (by rfl) rfl ?_ ?_
                            rotate_left 2
                            · go_simp
                              constructor
                              · rfl
                              · rfl
                            clear hcv37
                            refine hK.out _ _ trivial (fun hHeld => ?_)
                            clear hK K
                            refine norm_ (a' := ?_) ?_ ?_
                            rotate_left
                            · show Act.put _ (some 51) _ = _
                              simp only [Act.put, List.setIfInBounds_toArray, List.set_cons_zero, List.set_cons_succ, i64_w, i32_w]
                              rfl
                            refine pure_ (i := 6) (N := some 52) (v := ?_) (a' := ?_) #[true, true, true, true, true, true, true, true, true, true, false, false, false, false, false, false, false] rfl rfl (any_of HT_.out (by kernel_rfl)) (fun _ _ _ h => h) (Or.inl ⟨by rfl, ?_⟩) ?_ ?_
                            rotate_left
                            · intro w'
                              go_simp
                              with_reducible rfl
                            rotate_left
                            · simp only [Act.put, List.setIfInBounds_toArray, List.set_cons_zero, List.set_cons_succ, i64_w, i32_w]
                              rfl
                            refine pure_ (i := 10) (N := some 56) (v := ?_) (a' := ?_) #[true, true, true, true, true, true, true, true, true, true, true, false, false, false, false, false, false] rfl rfl (any_of HT_.out (by kernel_rfl)) (fun _ _ _ h => h) (Or.inl ⟨by rfl, ?_⟩) ?_ ?_
                            rotate_left
                            · intro w'
                              go_simp
                              with_reducible rfl
                            rotate_left
                            · simp only [Act.put, List.setIfInBounds_toArray, List.set_cons_zero, List.set_cons_succ, i64_w, i32_w]
                              rfl
                            refine one_ (i := 11) (N := some 57) #[true, true, true, true, true, true, true, true, true, true, true, true, false, false, false, false, false] rfl rfl (one_of HT_.out (by kernel_rfl)) (by decide) (fun K hK => ?_)
                            refine goes_ Tryd.func27 (by kernel_rfl) rfl #[.string ((((t214 ++ t215).extract 0 (t218 : Int).toNat) ++ (strOfNums y220)) ++ ((t214 ++ t215).extract (t218 : Int).toNat (t214 ++ t215).size))] (by rfl) rfl rfl (by (try simp only [List.map_toArray, List.map_cons, List.map_nil]); first | done | rfl | (simp only [ByteArray.size_append]; rfl) | (simp only [List.length_drop, List.length_take]; rfl)) ?_
                            with_reducible refine (octet_Digits.calls kj14 ((((t214 ++ t215).extract 0 (t218 : Int).toNat) ++ (strOfNums y220)) ++ ((t214 ++ t215).extract (t218 : Int).toNat (t214 ++ t215).size)) t223 false _ A26.out).mono ?_
                            rintro e w' ⟨rfl, ⟨nd, rfl⟩⟩
                            refine ⟨_, rfl, ?_⟩
                            refine hK.out _ _ trivial (fun hHeld => ?_)
                            clear hK K
                            refine norm_ (a' := ?_) ?_ ?_
                            rotate_left
                            · show Act.put _ (some 57) _ = _
                              simp only [Act.put, List.setIfInBounds_toArray, List.set_cons_zero, List.set_cons_succ, i64_w, i32_w]
                              rfl
                            refine pure_ (i := 12) (N := some 45) (v := ?_) (a' := ?_) #[true, true, true, true, true, true, true, true, true, true, true, true, true, false, false, false, false] rfl rfl (any_of HT_.out (by kernel_rfl)) (fun _ _ _ h => h) (Or.inl ⟨by rfl, ?_⟩) ?_ ?_
                            rotate_left
                            · intro w'
                              go_simp
                              with_reducible rfl
                            rotate_left
                            · simp only [Act.put, List.setIfInBounds_toArray, List.set_cons_zero, List.set_cons_succ, i64_w, i32_w]
                              rfl
                            refine pure_ (i := 13) (N := some 58) (v := ?_) (a' := ?_) #[true, true, true, true, true, true, true, true, true, true, true, true, true, true, false, false, false] rfl rfl (any_of HT_.out (by kernel_rfl)) (fun _ _ _ h => h) (Or.inl ⟨by rfl, ?_⟩) ?_ ?_
                            rotate_left
                            · intro w'
                              go_simp
                              with_reducible rfl
                            rotate_left
                            · simp only [Act.put, List.setIfInBounds_toArray, List.set_cons_zero, List.set_cons_succ, i64_w, i32_w]
                              rfl
                            refine pure_ (i := 14) (N := some 59) (v := ?_) (a' := ?_) #[true, true, true, true, true, true, true, true, true, true, true, true, true, true, true, false, false] rfl rfl (any_of HT_.out (by kernel_rfl)) (fun _ _ _ h => h) (Or.inl ⟨by rfl, ?_⟩) ?_ ?_
                            rotate_left
                            · intro w'
                              go_simp
                              with_reducible rfl
                            rotate_left
                            · simp only [Act.put, List.setIfInBounds_toArray, List.set_cons_zero, List.set_cons_succ, i64_w, i32_w]
                              rfl
                            refine pure_ (i := 15) (N := some 13) (v := ?_) (a' := ?_) #[true, true, true, true, true, true, true, true, true, true, true, true, true, true, true, true, false] rfl rfl (any_of HT_.out (by kernel_rfl)) (fun _ _ _ h => h) (Or.inl ⟨by rfl, ?_⟩) ?_ ?_
                            rotate_left
                            · intro w'
                              go_simp
                              with_reducible rfl
                            rotate_left
                            · simp only [Act.put, List.setIfInBounds_toArray, List.set_cons_zero, List.set_cons_succ, i64_w, i32_w]
                              rfl
                            refine pure_ (i := 16) (N := some 14) (v := ?_) (a' := ?_) #[true, true, true, true, true, true, true, true, true, true, true, true, true, true, true, true, true] rfl rfl (any_of HT_.out (by kernel_rfl)) (fun _ _ _ h => h) (Or.inl ⟨by rfl, ?_⟩) ?_ ?_
                            rotate_left
                            · intro w'
                              go_simp
                              with_reducible rfl
                            rotate_left
                            · simp only [Act.put, List.setIfInBounds_toArray, List.set_cons_zero, List.set_cons_succ, i64_w, i32_w]
                              rfl
                            refine done_ (done_of HT_.out (by kernel_rfl)) ?_
                            try go_wp2_with (first | (go_at_call 17; (with_reducible refine (lockkeeperlaw1_awake.calls kj14  t225 _ A33.out).mono ?_); rintro e w38 ⟨rfl, hb⟩; have n0_ := Aside0.mk (Kd.R_below (by (with_reducible repeat (first | apply Kd.R_alloc | apply Kd.R_drewN | apply Kd.R_drew)); exact HO222.out) hb); have n1_ := Aside0.mk (below_step (by repeat (first | (with_reducible first | exact HB.out | apply below_alloc | apply pw_below_drewN | apply below_drew1) | exact HB.out)) hb); clear HO222; clear HB; have HO222 := n0_; have HB := n1_; clear n0_ n1_; (try clear hb); (try clear hb2); (try clear hk); (try clear hi)))
                            go_ret
                            exact ⟨by first | rfl | (simp [errW_none, errW_some] <;> rfl) | (simp [*, errW_none, errW_some] <;> rfl), by repeat (first | (with_reducible first | exact HB.out | apply below_alloc | apply pw_below_drewN | apply below_drew1) | exact HB.out)⟩
                          · rw [if_neg c32] at H
                            have c32b0 : (t223 == 0) = false := beq_eq_false_iff_ne.mpr c32
                            have c32b1 : (t223 != 0) = true := bne_iff_ne.mpr c32
                            exact absurd ((Option.some.inj H).trans hr_) (by decide)
                      · rw [if_neg c25] at H
                        exact absurd H (by simp)
                    · rw [if_neg c22] at H
                      exact absurd H (by simp)
                  · rw [if_neg c21] at H
                    exact absurd H (by simp)
                · rw [if_neg c20] at H
                  exact absurd H (by simp)
  · rw [if_neg c8] at H
    exact absurd H (by simp)

/-- THE ONE PURE STATEMENT of lockkeeperlaw1_OctetDigits: yours. -/
def lockkeeperlaw1_OctetDigits.Pure : Prop := ∀ (a0 : Int) (a1 : Int) (a2 : Int) (a3 : Int), (Lit.int .u64 a0).wf = true → (Lit.int .i64 a1).wf = true → (Lit.int .i64 a2).wf = true → (Lit.int .u8 a3).wf = true → ∃ k, lockkeeperlaw1_OctetDigits.f k a0 a1 a2 a3 = some true
theorem lockkeeperlaw1_OctetDigits.walk (P : lockkeeperlaw1_OctetDigits.Pure) (a0 : Int) (a1 : Int) (a2 : Int) (a3 : Int) (w : World) (w0 : (Lit.int .u64 a0).wf = true) (w1 : (Lit.int .i64 a1).wf = true) (w2 : (Lit.int .i64 a2).wf = true) (w3 : (Lit.int .u8 a3).wf = true) :
    Calls Tryd.prog 5 #[.int .u64 a0, .int .i64 a1, .int .i64 a2, .int .u8 a3] w fun e w' => e = .returned (.bool true) ∧ Below w.heap.size w w' := by
  obtain ⟨k, h⟩ := P a0 a1 a2 a3 w0 w1 w2 w3
  refine (lockkeeperlaw1_OctetDigits.calls (hr_ := rfl) k a0 a1 a2 a3 true w h).mono ?_
  rintro e w' ⟨rfl, hd⟩
  exact ⟨rfl, hd⟩

end Go.Proofs.YtojcceafgkdchaaDoor.Pr
