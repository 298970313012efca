-- Made by a program of this session (wip/xp/xp.py), over the print's words.
import Derived.Test.YtbfbidifodcedaaDoorPr0
import Derived.Test.YtbfbidifodcedaaDoorPr1
import Derived.Test.YtbfbidifodcedaaDoorPr4
import Derived.Test.YtbfbidifodcedaaDoorPr5
import Derived.Test.YtbfbidifodcedaaDoorPr6
import Derived.Test.YtbfbidifodcedaaDoorPr8
import Derived.Test.YtbfbidifodcedaaDoorPr12
import Derived.Test.YtbfbidifodcedaaDoorG5
namespace Go.Proofs.YtbfbidifodcedaaDoor.Pr
open Go.RowKit Go.Proofs.YtbfbidifodcedaaDoorW.PrintWords Go.Proofs.YtbfbidifodcedaaDoorW.PrintLast Go.Proofs.YtbfbidifodcedaaDoorW.PrintMore
attribute [local go_sem] max2_int min2_int max_two min_two max_three min_three max_four min_four   -- for this text's walks alone
set_option linter.unusedVariables false
set_option linter.unusedSimpArgs false

attribute [local go_sem high] eqA23
/-! ### lockkeeperlaw3_OriginPorts: function 6 -/
mutual
def lockkeeperlaw3_OriginPorts.j0 : Nat → Int → Int → ByteArray → Int → Option (Bool)
  | 0, _, _, _, _ => none
  | k + 1, x0, x1, x7, x8 => (lockkeeperlaw0_Low.f x1 3).bind fun t223 => (if x7.size + 5 ≤ 9223372036854775807 then ((lockkeeperlaw0_Text.f k t223 48).bind fun t224 => (if (x7 ++ (⟨#[58, 47, 47, 104, 58]⟩ : ByteArray)).size + t224.size ≤ 9223372036854775807 then ((lockkeeperref1_Num.f k x0).bind fun t225 => (if ((x7 ++ (⟨#[58, 47, 47, 104, 58]⟩ : ByteArray)) ++ t224).size + t225.size ≤ 9223372036854775807 then ((origin_Parse.f k (((x7 ++ (⟨#[58, 47, 47, 104, 58]⟩ : ByteArray)) ++ t224) ++ t225)).bind fun bt226 => (if t223 > 0 then (lockkeeperlaw3_OriginPorts.j1 k x0 x7 x8 bt226.2.2.2 true bt226.1 bt226.2.1 bt226.2.2.1) else (if x0 < 1 then (lockkeeperlaw3_OriginPorts.j1 k x0 x7 x8 bt226.2.2.2 true bt226.1 bt226.2.1 bt226.2.2.1) else (lockkeeperlaw3_OriginPorts.j1 k x0 x7 x8 bt226.2.2.2 (decide (x0 > 65535)) bt226.1 bt226.2.1 bt226.2.2.1)))) else (none))) else (none))) else (none))
def lockkeeperlaw3_OriginPorts.j1 : Nat → Int → ByteArray → Int → Int → Bool → ByteArray → ByteArray → Int → Option (Bool)
  | 0, _, _, _, _, _, _, _, _ => none
  | k + 1, x0, x7, x8, x11, x37, x231000, x231001, x231002 => if x37 = true then (if x11 = 3 then (if (x231000.toList == ([] : List UInt8) && (x231001.toList == ([] : List UInt8) && (x231002 == 0))) = true then ((lockkeeperlaw3_awake.f k).bind fun t231 => (some t231)) else (some false)) else (some false)) else (if x7.size + 4 ≤ 9223372036854775807 then (if x0 = x8 then (if x11 = 0 then (if x231002 = (wrap64 (x0)) then ((origin_Show.f k x231000 x231001 x231002).bind fun t232 => (if t232.toList = (x7 ++ (⟨#[58, 47, 47, 104]⟩ : ByteArray)).toList then ((lockkeeperlaw3_awake.f k).bind fun t233 => (some t233)) else (some false))) else (some false)) else (some false)) else (if (x7 ++ (⟨#[58, 47, 47, 104]⟩ : ByteArray)).size + 1 ≤ 9223372036854775807 then ((lockkeeperref1_Num.f k x0).bind fun t234 => (if ((x7 ++ (⟨#[58, 47, 47, 104]⟩ : ByteArray)) ++ (⟨#[58]⟩ : ByteArray)).size + t234.size ≤ 9223372036854775807 then (if x11 = 0 then (if x231002 = (wrap64 (x0)) then ((origin_Show.f k x231000 x231001 x231002).bind fun t235 => (if t235.toList = (((x7 ++ (⟨#[58, 47, 47, 104]⟩ : ByteArray)) ++ (⟨#[58]⟩ : ByteArray)) ++ t234).toList then ((lockkeeperlaw3_awake.f k).bind fun t236 => (some t236)) else (some false))) else (some false)) else (some false)) else (none))) else (none))) else (none))
end
def lockkeeperlaw3_OriginPorts.f (k : Nat) (a0 : Int) (a1 : Int) (a2 : Bool) : Option (Bool) := if a2 = true then (lockkeeperlaw3_OriginPorts.j0 k a0 a1 (⟨#[104, 116, 116, 112, 115]⟩ : ByteArray) 443) else (lockkeeperlaw3_OriginPorts.j0 k a0 a1 (⟨#[104, 116, 116, 112]⟩ : ByteArray) 80)
theorem lockkeeperlaw3_OriginPorts.mono_l : ∀ k, (∀ y0 y1 y2 y3, LeO (lockkeeperlaw3_OriginPorts.j0 k y0 y1 y2 y3) (lockkeeperlaw3_OriginPorts.j0 (k + 1) y0 y1 y2 y3)) ∧ (∀ y0 y1 y2 y3 y4 y5 y6 y7, LeO (lockkeeperlaw3_OriginPorts.j1 k y0 y1 y2 y3 y4 y5 y6 y7) (lockkeeperlaw3_OriginPorts.j1 (k + 1) y0 y1 y2 y3 y4 y5 y6 y7))
  | 0 => ⟨fun _ _ _ _ r h => by simp [lockkeeperlaw3_OriginPorts.j0] at h, fun _ _ _ _ _ _ _ _ r h => by simp [lockkeeperlaw3_OriginPorts.j1] at h⟩
  | k + 1 => by
    obtain ⟨ih0, ih1⟩ := lockkeeperlaw3_OriginPorts.mono_l k
    refine ⟨?_, ?_⟩
    · intro y0 y1 y2 y3
      unfold lockkeeperlaw3_OriginPorts.j0
      repeat' first
      | (with_reducible exact ih0 _ _ _ _)
      | (with_reducible exact ih1 _ _ _ _ _ _ _ _)
      | (with_reducible exact lockkeeperlaw0_Text.mono _ _ _)
      | (with_reducible exact lockkeeperlaw3_awake.mono _)
      | (with_reducible exact lockkeeperref1_Num.mono _ _)
      | (with_reducible exact origin_Parse.mono _ _)
      | (with_reducible exact origin_Show.mono _ _ _ _)
      | (with_reducible exact LeO.refl _)
      | (with_reducible exact LeO.none _)
      | (with_reducible refine LeO.ite ?_ ?_)
      | (with_reducible refine LeO.bind ?_ (fun _ => ?_))
      | exact ih0 _ _ _ _
      | exact ih1 _ _ _ _ _ _ _ _
      | exact lockkeeperlaw0_Text.mono _ _ _
      | exact lockkeeperlaw3_awake.mono _
      | exact lockkeeperref1_Num.mono _ _
      | exact origin_Parse.mono _ _
      | exact origin_Show.mono _ _ _ _
      | exact LeO.none _
      | refine LeO.ite ?_ ?_
      | refine LeO.bind ?_ (fun _ => ?_)
    · intro y0 y1 y2 y3 y4 y5 y6 y7
      unfold lockkeeperlaw3_OriginPorts.j1
      repeat' first
      | (with_reducible exact ih0 _ _ _ _)
      | (with_reducible exact ih1 _ _ _ _ _ _ _ _)
      | (with_reducible exact lockkeeperlaw0_Text.mono _ _ _)
      | (with_reducible exact lockkeeperlaw3_awake.mono _)
      | (with_reducible exact lockkeeperref1_Num.mono _ _)
      | (with_reducible exact origin_Parse.mono _ _)
      | (with_reducible exact origin_Show.mono _ _ _ _)
      | (with_reducible exact LeO.refl _)
      | (with_reducible exact LeO.none _)
      | (with_reducible refine LeO.ite ?_ ?_)
      | (with_reducible refine LeO.bind ?_ (fun _ => ?_))
      | exact ih0 _ _ _ _
      | exact ih1 _ _ _ _ _ _ _ _
      | exact lockkeeperlaw0_Text.mono _ _ _
      | exact lockkeeperlaw3_awake.mono _
      | exact lockkeeperref1_Num.mono _ _
      | exact origin_Parse.mono _ _
      | exact origin_Show.mono _ _ _ _
      | exact LeO.none _
      | refine LeO.ite ?_ ?_
      | refine LeO.bind ?_ (fun _ => ?_)
theorem lockkeeperlaw3_OriginPorts.mono : ∀ a0 a1 a2 k, LeO (lockkeeperlaw3_OriginPorts.f k a0 a1 a2) (lockkeeperlaw3_OriginPorts.f (k + 1) a0 a1 a2) := by
  intro a0 a1 a2 k
  obtain ⟨ih0, ih1⟩ := lockkeeperlaw3_OriginPorts.mono_l k
  unfold lockkeeperlaw3_OriginPorts.f
  repeat' first
      | (with_reducible exact ih0 _ _ _ _)
      | (with_reducible exact ih1 _ _ _ _ _ _ _ _)
      | (with_reducible exact lockkeeperlaw0_Text.mono _ _ _)
      | (with_reducible exact lockkeeperlaw3_awake.mono _)
      | (with_reducible exact lockkeeperref1_Num.mono _ _)
      | (with_reducible exact origin_Parse.mono _ _)
      | (with_reducible exact origin_Show.mono _ _ _ _)
      | (with_reducible exact LeO.refl _)
      | (with_reducible exact LeO.none _)
      | (with_reducible refine LeO.ite ?_ ?_)
      | (with_reducible refine LeO.bind ?_ (fun _ => ?_))
      | exact ih0 _ _ _ _
      | exact ih1 _ _ _ _ _ _ _ _
      | exact lockkeeperlaw0_Text.mono _ _ _
      | exact lockkeeperlaw3_awake.mono _
      | exact lockkeeperref1_Num.mono _ _
      | exact origin_Parse.mono _ _
      | exact origin_Show.mono _ _ _ _
      | exact LeO.none _
      | refine LeO.ite ?_ ?_
      | refine LeO.bind ?_ (fun _ => ?_)
set_option maxHeartbeats 8000000 in
set_option maxRecDepth 100000 in
theorem lockkeeperlaw3_OriginPorts.calls (k : Nat) (a0 : Int) (a1 : Int) (a2 : Bool) (r : Bool) (w : World) (hM_ : Aside0 (LaidW w)) (h : lockkeeperlaw3_OriginPorts.f k a0 a1 a2 = some r) :
    Calls Tryd.prog 6 #[.int .u64 a0, .int .i64 a1, .bool a2] w fun e w' => e = .returned (.bool r) ∧ Below w.heap.size w w' := by
  have hu23 := Tryd.underlying23
  have HB := Aside0.mk (Below.refl w.heap.size w)
  have H : (if a2 = true then (lockkeeperlaw3_OriginPorts.j0 k a0 a1 (⟨#[104, 116, 116, 112, 115]⟩ : ByteArray) 443) else (lockkeeperlaw3_OriginPorts.j0 k a0 a1 (⟨#[104, 116, 116, 112]⟩ : ByteArray) 80)) = some r := h
  clear h
  have HC4 := Aside0.mk H
  clear H
  go_enter Tryd.func6, Tryd.ntmps6
  go_upto_if 13 with (fail)
  go_cut [7, 8] (fun v7 v8 wc => ∃ (kq : Nat) (x7_3 : ByteArray) (x8_3 : Int), v7 = .string x7_3 ∧ v8 = .int .u64 x8_3 ∧ Aside0 (lockkeeperlaw3_OriginPorts.j0 kq a0 a1 x7_3 x8_3 = some r) ∧ Aside0 (kq ≤ k) ∧ Aside0 (Below w.heap.size w wc))
  case first =>
    have H := HC4.out
    clear HC4
    by_cases c5 : a2 = true
    · subst c5
      have H1 : (lockkeeperlaw3_OriginPorts.j0 k a0 a1 (⟨#[104, 116, 116, 112, 115]⟩ : ByteArray) 443) = some r := by rw [if_pos rfl] at H; exact H
      clear H
      have H := H1
      clear H1
      have H' := Aside0.mk H
      clear H
      go_wp2
      go_meet
      case rel => exact ⟨_, ((⟨#[104, 116, 116, 112, 115]⟩ : ByteArray)), (443), (by first | rfl | (simp; done) | (simp [*]; done)), (by first | rfl | (simp; done) | (simp [*]; done)), H', ⟨by first | omega | exact Nat.le_refl _⟩, ⟨by repeat (first | (with_reducible first | exact HB.out | apply below_alloc | apply pw_below_drewN | apply below_drew1) | exact HB.out)⟩⟩
    · replace c5 := Bool.eq_false_iff.mpr c5
      subst c5
      have H1 : (lockkeeperlaw3_OriginPorts.j0 k a0 a1 (⟨#[104, 116, 116, 112]⟩ : ByteArray) 80) = some r := by rw [if_neg (show ¬ (false = true) by decide)] at H; exact H
      clear H
      have H := H1
      clear H1
      have H' := Aside0.mk H
      clear H
      go_wp2
      go_meet
      case rel => exact ⟨_, ((⟨#[104, 116, 116, 112]⟩ : ByteArray)), (80), (by first | rfl | (simp; done) | (simp [*]; done)), (by first | rfl | (simp; done) | (simp [*]; done)), H', ⟨by first | omega | exact Nat.le_refl _⟩, ⟨by repeat (first | (with_reducible first | exact HB.out | apply below_alloc | apply pw_below_drewN | apply below_drew1) | exact HB.out)⟩⟩
  case rest =>
    clear HC4
    try clear p2
    try clear c5
    obtain ⟨kq, x7_3, x8_3, rfl, rfl, HA, HJ3, HB⟩ := hcut
    cases kq with
    | zero => exact absurd HA.out (by simp [lockkeeperlaw3_OriginPorts.j0])
    | succ kj3 =>
      have H := HA.out
      clear HA
      simp only [lockkeeperlaw3_OriginPorts.j0] at H
      replace H := Option.bind_eq_some_iff.mp H
      obtain ⟨t223, A60, H⟩ := H
      replace H : (if x7_3.size + 5 ≤ 9223372036854775807 then ((lockkeeperlaw0_Text.f kj3 t223 48).bind fun t224 => (if (x7_3 ++ (⟨#[58, 47, 47, 104, 58]⟩ : ByteArray)).size + t224.size ≤ 9223372036854775807 then ((lockkeeperref1_Num.f kj3 a0).bind fun t225 => (if ((x7_3 ++ (⟨#[58, 47, 47, 104, 58]⟩ : ByteArray)) ++ t224).size + t225.size ≤ 9223372036854775807 then ((origin_Parse.f kj3 (((x7_3 ++ (⟨#[58, 47, 47, 104, 58]⟩ : ByteArray)) ++ t224) ++ t225)).bind fun bt226 => (if t223 > 0 then (lockkeeperlaw3_OriginPorts.j1 kj3 a0 x7_3 x8_3 bt226.2.2.2 true bt226.1 bt226.2.1 bt226.2.2.1) else (if a0 < 1 then (lockkeeperlaw3_OriginPorts.j1 kj3 a0 x7_3 x8_3 bt226.2.2.2 true bt226.1 bt226.2.1 bt226.2.2.1) else (lockkeeperlaw3_OriginPorts.j1 kj3 a0 x7_3 x8_3 bt226.2.2.2 (decide (a0 > 65535)) bt226.1 bt226.2.1 bt226.2.2.1)))) else (none))) else (none))) else (none)) = some r := H
      have A6 := Aside0.mk A60
      clear A60
      by_cases c7 : x7_3.size + 5 ≤ 9223372036854775807
      · rw [if_pos c7] at H
        have c7b0 := eq_true c7
        have c7b1 : decide (x7_3.size + 5 ≤ 9223372036854775807) = true := decide_eq_true c7
        try have c7b2 : (9223372036854775807 < x7_3.size + 5) = False := eq_false (Nat.not_lt.2 c7)
        replace H := Option.bind_eq_some_iff.mp H
        obtain ⟨t224, A80, H⟩ := H
        replace H : (if (x7_3 ++ (⟨#[58, 47, 47, 104, 58]⟩ : ByteArray)).size + t224.size ≤ 9223372036854775807 then ((lockkeeperref1_Num.f kj3 a0).bind fun t225 => (if ((x7_3 ++ (⟨#[58, 47, 47, 104, 58]⟩ : ByteArray)) ++ t224).size + t225.size ≤ 9223372036854775807 then ((origin_Parse.f kj3 (((x7_3 ++ (⟨#[58, 47, 47, 104, 58]⟩ : ByteArray)) ++ t224) ++ t225)).bind fun bt226 => (if t223 > 0 then (lockkeeperlaw3_OriginPorts.j1 kj3 a0 x7_3 x8_3 bt226.2.2.2 true bt226.1 bt226.2.1 bt226.2.2.1) else (if a0 < 1 then (lockkeeperlaw3_OriginPorts.j1 kj3 a0 x7_3 x8_3 bt226.2.2.2 true bt226.1 bt226.2.1 bt226.2.2.1) else (lockkeeperlaw3_OriginPorts.j1 kj3 a0 x7_3 x8_3 bt226.2.2.2 (decide (a0 > 65535)) bt226.1 bt226.2.1 bt226.2.2.1)))) else (none))) else (none)) = some r := H
        have A8 := Aside0.mk A80
        clear A80
        by_cases c9 : (x7_3 ++ (⟨#[58, 47, 47, 104, 58]⟩ : ByteArray)).size + t224.size ≤ 9223372036854775807
        · rw [if_pos c9] at H
          try (have c9b5 := c9; simp only [ByteArray.size_append, Int.natCast_add] at c9b5)
          have c9b0 := eq_true c9
          have c9b1 : decide ((x7_3 ++ (⟨#[58, 47, 47, 104, 58]⟩ : ByteArray)).size + t224.size ≤ 9223372036854775807) = true := decide_eq_true c9
          try have c9b2 : (9223372036854775807 < (x7_3 ++ (⟨#[58, 47, 47, 104, 58]⟩ : ByteArray)).size + t224.size) = False := eq_false (Nat.not_lt.2 c9)
          try have c9b3 : (9223372036854775807 < x7_3.size + 5 + t224.size) = False := eq_false (Nat.not_lt.2 (by have z_ := c9; simp only [ByteArray.size_append] at z_; first | exact z_ | simpa using z_))
          replace H := Option.bind_eq_some_iff.mp H
          obtain ⟨t225, A100, H⟩ := H
          replace H : (if ((x7_3 ++ (⟨#[58, 47, 47, 104, 58]⟩ : ByteArray)) ++ t224).size + t225.size ≤ 9223372036854775807 then ((origin_Parse.f kj3 (((x7_3 ++ (⟨#[58, 47, 47, 104, 58]⟩ : ByteArray)) ++ t224) ++ t225)).bind fun bt226 => (if t223 > 0 then (lockkeeperlaw3_OriginPorts.j1 kj3 a0 x7_3 x8_3 bt226.2.2.2 true bt226.1 bt226.2.1 bt226.2.2.1) else (if a0 < 1 then (lockkeeperlaw3_OriginPorts.j1 kj3 a0 x7_3 x8_3 bt226.2.2.2 true bt226.1 bt226.2.1 bt226.2.2.1) else (lockkeeperlaw3_OriginPorts.j1 kj3 a0 x7_3 x8_3 bt226.2.2.2 (decide (a0 > 65535)) bt226.1 bt226.2.1 bt226.2.2.1)))) else (none)) = some r := H
          have A10 := Aside0.mk A100
          clear A100
          by_cases c11 : ((x7_3 ++ (⟨#[58, 47, 47, 104, 58]⟩ : ByteArray)) ++ t224).size + t225.size ≤ 9223372036854775807
          · rw [if_pos c11] at H
            try (have c11b5 := c11; simp only [ByteArray.size_append, Int.natCast_add] at c11b5)
            have c11b0 := eq_true c11
            have c11b1 : decide (((x7_3 ++ (⟨#[58, 47, 47, 104, 58]⟩ : ByteArray)) ++ t224).size + t225.size ≤ 9223372036854775807) = true := decide_eq_true c11
            try have c11b2 : (9223372036854775807 < ((x7_3 ++ (⟨#[58, 47, 47, 104, 58]⟩ : ByteArray)) ++ t224).size + t225.size) = False := eq_false (Nat.not_lt.2 c11)
            try have c11b3 : (9223372036854775807 < x7_3.size + 5 + t224.size + t225.size) = False := eq_false (Nat.not_lt.2 (by have z_ := c11; simp only [ByteArray.size_append] at z_; first | exact z_ | simpa using z_))
            replace H := Option.bind_eq_some_iff.mp H
            obtain ⟨⟨t226, t227, t228, t229⟩, A120, H⟩ := H
            replace H : (if t223 > 0 then (lockkeeperlaw3_OriginPorts.j1 kj3 a0 x7_3 x8_3 t229 true t226 t227 t228) else (if a0 < 1 then (lockkeeperlaw3_OriginPorts.j1 kj3 a0 x7_3 x8_3 t229 true t226 t227 t228) else (lockkeeperlaw3_OriginPorts.j1 kj3 a0 x7_3 x8_3 t229 (decide (a0 > 65535)) t226 t227 t228))) = some r := H
            have A12 := Aside0.mk A120
            clear A120
            have HC13 := Aside0.mk H
            clear H
            go_upto_region 6 with (first | ((with_reducible refine gate_callee (f := 30) rfl ?_); refine goesL_ (some 15) rfl rfl Tryd.func30 (by kernel_rfl) rfl #[.int .i64 a1, .int .i64 3] rfl (by (try simp only [List.map_toArray, List.map_cons, List.map_nil]); first | done | rfl | (simp only [List.length_drop, List.length_take]; rfl)) ?_; (with_reducible refine (lockkeeperlaw0_Low.calls a1 3 t223 _ A6.out).mono ?_); rintro e w' ⟨rfl, ⟨nd, rfl⟩⟩; refine ⟨_, rfl, ?_⟩; (try (rw [drewN_self wc]; generalize hq_ : World.drewN wc _ = wc; have n0_ : Aside0 (Below w.heap.size w wc) := ⟨by rw [← hq_]; exact (by repeat (first | (with_reducible first | exact HB.out | apply below_alloc | apply pw_below_drewN | apply below_drew1) | exact HB.out))⟩; clear HB hq_; have HB := n0_; clear n0_))) | ((with_reducible refine gate_callee (f := 31) rfl ?_); refine goesL_ (some 20) rfl rfl Tryd.func31 (by kernel_rfl) rfl #[.int .i64 t223, .int .u8 48] rfl (by (try simp only [List.map_toArray, List.map_cons, List.map_nil]); first | done | rfl | (simp only [List.length_drop, List.length_take]; rfl)) ?_; (with_reducible refine (lockkeeperlaw0_Text.calls kj3 t223 48 t224 _ A8.out).mono ?_); rintro e w14 ⟨rfl, hb⟩; refine ⟨_, rfl, ?_⟩; have n0_ := Aside0.mk (below_step (by repeat (first | (with_reducible first | exact HB.out | apply below_alloc | apply pw_below_drewN | apply below_drew1) | exact HB.out)) hb); clear HB; have HB := n0_; clear n0_; (try clear hb); (try clear hb2); (try clear hk); (try clear hi)) | ((with_reducible refine gate_callee (f := 32) rfl ?_); refine goesL_ (some 23) rfl rfl Tryd.func32 (by kernel_rfl) rfl #[.int .u64 a0] rfl (by (try simp only [List.map_toArray, List.map_cons, List.map_nil]); first | done | rfl | (simp only [List.length_drop, List.length_take]; rfl)) ?_; (with_reducible refine (lockkeeperref1_Num.calls kj3 a0 t225 _ A10.out).mono ?_); rintro e w' ⟨rfl, ⟨nd, rfl⟩⟩; refine ⟨_, rfl, ?_⟩; (try (rw [drewN_self w14]; generalize hq_ : World.drewN w14 _ = w14; have n0_ : Aside0 (Below w.heap.size w w14) := ⟨by rw [← hq_]; exact (by repeat (first | (with_reducible first | exact HB.out | apply below_alloc | apply pw_below_drewN | apply below_drew1) | exact HB.out))⟩; clear HB hq_; have HB := n0_; clear n0_))) | ((with_reducible refine gate_callee (f := 19) rfl ?_); refine goesL_ (some 25) rfl rfl Tryd.func19 (by kernel_rfl) rfl #[.string (((x7_3 ++ (⟨#[58, 47, 47, 104, 58]⟩ : ByteArray)) ++ t224) ++ t225)] rfl (by (try simp only [List.map_toArray, List.map_cons, List.map_nil]); first | done | rfl | (simp only [List.length_drop, List.length_take]; rfl)) ?_; (with_reducible refine (origin_Parse.calls kj3 (((x7_3 ++ (⟨#[58, 47, 47, 104, 58]⟩ : ByteArray)) ++ t224) ++ t225) t226 t227 t228 t229 _ ?side1 A12.out).mono ?_); (case side1 => exact ⟨by repeat (first | exact hM_.out | exact LaidW.below hM_.out HB.out | (with_reducible refine LaidW.alloc ?_ _) | (with_reducible refine LaidW.drewN ?_ _) | (with_reducible refine LaidW.drew ?_) | exact LaidW.below hM_.out (by repeat (first | (with_reducible first | exact HB.out | apply below_alloc | apply pw_below_drewN | apply below_drew1) | exact HB.out)))⟩); rintro e w15 ⟨rfl, hb⟩; refine ⟨_, rfl, ?_⟩; have n0_ := Aside0.mk (below_step (by repeat (first | (with_reducible first | exact HB.out | apply below_alloc | apply pw_below_drewN | apply below_drew1) | exact HB.out)) hb); clear HB; have HB := n0_; clear n0_; (try clear hb); (try clear hb2); (try clear hk); (try clear hi)) | ((with_reducible refine gate_dst (N := 10) rfl ?_); refine box_event ?hg (N := 10) ?hd (cs := #[.string (⟨#[]⟩ : ByteArray), .string (⟨#[]⟩ : ByteArray), .int .i64 0]) (t := 23) ?hr ?_; (case hd => rfl); (case hg => rfl); (case hr => first | (go_simp; done) | (go_simp; rfl)); intro gb230 hg w16 hbox hb; have n0_ := Aside0.mk (below_step (by repeat (first | (with_reducible first | exact HB.out | apply below_alloc | apply pw_below_drewN | apply below_drew1) | exact HB.out)) hb); have n1_ := Aside0.mk (hbox); have n2_ := Aside0.mk ((by rw [hg]; exact (below_size (by repeat (first | (with_reducible first | exact HB.out | apply below_alloc | apply pw_below_drewN | apply below_drew1) | exact HB.out))) : w.heap.size ≤ gb230)); have n3_ := Aside0.mk ((by rw [hg]; exact (below_size (by repeat (first | (with_reducible first | exact HB.out | apply below_alloc | apply pw_below_drewN | apply below_drew1) | exact HB.out))) : w.heap.size ≤ gb230)); clear HB; have HB := n0_; have BK230 := n1_; have GW230 := n2_; have GE230 := n3_; clear n0_ n1_ n2_ n3_; clear hb hbox hg; have hcz17_0 : w16.cell? ⟨gb230, 0, none⟩ = some (.string (⟨#[]⟩ : ByteArray)) := (blk_cell BK230.out 0).trans rfl; have hcz17_1 : w16.cell? ⟨gb230, 1, none⟩ = some (.string (⟨#[]⟩ : ByteArray)) := (blk_cell BK230.out 1).trans rfl; have hcz17_2 : w16.cell? ⟨gb230, 2, none⟩ = some (.int .i64 0) := (blk_cell BK230.out 2).trans rfl; have hfz17_0 := blk_frozen BK230.out 0; have hfz17_1 := blk_frozen BK230.out 1; have hfz17_2 := blk_frozen BK230.out 2))
            (try simp only [Act.put, List.setIfInBounds_toArray, List.set_cons_zero, List.set_cons_succ])
            go_cut [37] (fun v37 wc => ∃ (kq : Nat) (x37_12 : Bool), v37 = .bool x37_12 ∧ Aside0 (lockkeeperlaw3_OriginPorts.j1 kq a0 x7_3 x8_3 t229 x37_12 t226 t227 t228 = some r) ∧ Aside0 (kq ≤ kj3) ∧ Aside0 (wc.heap[gb230]? = some (.cells #[.string t226, .string t227, .int .i64 t228] 23 (0, 0))) ∧ Aside0 (Below w.heap.size w wc))
            case first =>
              have H := HC13.out
              clear HC13
              by_cases c18 : t223 > 0
              · rw [if_pos c18] at H
                have c18b0 : decide (0 < t223) = true := decide_eq_true c18
                clear c18
                (first | rw [c18b0] | (simp only [i64_w, i32_w]; rw [c18b0]) | skip)
                have H' := Aside0.mk H
                clear H
                go_wp2
                go_meet
                case rel => exact ⟨_, (true), (by first | rfl | (simp; done) | (simp [*]; done)), H', ⟨by have := HJ3.out; first | omega | exact Nat.le_refl _⟩, ⟨by (with_reducible repeat (first | refine blk_drewN ?_ _ | refine blk_drew ?_ | refine blk_alloc ?_ _)); refine blk_put (cs := #[.string t226, .string t227, .int .i64 0]) ?_ 2 _ rfl; (with_reducible repeat (first | refine blk_drewN ?_ _ | refine blk_drew ?_ | refine blk_alloc ?_ _)); refine blk_put (cs := #[.string t226, .string (⟨#[]⟩ : ByteArray), .int .i64 0]) ?_ 1 _ rfl; (with_reducible repeat (first | refine blk_drewN ?_ _ | refine blk_drew ?_ | refine blk_alloc ?_ _)); refine blk_put (cs := #[.string (⟨#[]⟩ : ByteArray), .string (⟨#[]⟩ : ByteArray), .int .i64 0]) ?_ 0 _ rfl; (with_reducible repeat (first | refine blk_drewN ?_ _ | refine blk_drew ?_ | refine blk_alloc ?_ _)); exact BK230.out⟩, ⟨by repeat (first | (with_reducible first | exact HB.out | apply below_alloc | apply pw_below_drewN | apply below_drew1 | refine below_set ?_ GE230.out) | exact HB.out)⟩⟩
              · rw [if_neg c18] at H
                have c18b0 : decide (0 < t223) = false := decide_eq_false c18
                clear c18
                (first | rw [c18b0] | (simp only [i64_w, i32_w]; rw [c18b0]) | skip)
                by_cases c19 : a0 < 1
                · rw [if_pos c19] at H
                  have c19b0 : decide (a0 < 1) = true := decide_eq_true c19
                  clear c19
                  have H' := Aside0.mk H
                  clear H
                  go_wp2
                  go_meet
                  case rel => exact ⟨_, (true), (by first | rfl | (simp; done) | (simp [*]; done)), H', ⟨by have := HJ3.out; first | omega | exact Nat.le_refl _⟩, ⟨by (with_reducible repeat (first | refine blk_drewN ?_ _ | refine blk_drew ?_ | refine blk_alloc ?_ _)); refine blk_put (cs := #[.string t226, .string t227, .int .i64 0]) ?_ 2 _ rfl; (with_reducible repeat (first | refine blk_drewN ?_ _ | refine blk_drew ?_ | refine blk_alloc ?_ _)); refine blk_put (cs := #[.string t226, .string (⟨#[]⟩ : ByteArray), .int .i64 0]) ?_ 1 _ rfl; (with_reducible repeat (first | refine blk_drewN ?_ _ | refine blk_drew ?_ | refine blk_alloc ?_ _)); refine blk_put (cs := #[.string (⟨#[]⟩ : ByteArray), .string (⟨#[]⟩ : ByteArray), .int .i64 0]) ?_ 0 _ rfl; (with_reducible repeat (first | refine blk_drewN ?_ _ | refine blk_drew ?_ | refine blk_alloc ?_ _)); exact BK230.out⟩, ⟨by repeat (first | (with_reducible first | exact HB.out | apply below_alloc | apply pw_below_drewN | apply below_drew1 | refine below_set ?_ GE230.out) | exact HB.out)⟩⟩
                · rw [if_neg c19] at H
                  have c19b0 : decide (a0 < 1) = false := decide_eq_false c19
                  clear c19
                  have H' := Aside0.mk H
                  clear H
                  go_wp2
                  go_meet
                  case rel => exact ⟨_, (decide (a0 > 65535)), (by first | rfl | (simp; done) | (simp [*]; done)), H', ⟨by have := HJ3.out; first | omega | exact Nat.le_refl _⟩, ⟨by (with_reducible repeat (first | refine blk_drewN ?_ _ | refine blk_drew ?_ | refine blk_alloc ?_ _)); refine blk_put (cs := #[.string t226, .string t227, .int .i64 0]) ?_ 2 _ rfl; (with_reducible repeat (first | refine blk_drewN ?_ _ | refine blk_drew ?_ | refine blk_alloc ?_ _)); refine blk_put (cs := #[.string t226, .string (⟨#[]⟩ : ByteArray), .int .i64 0]) ?_ 1 _ rfl; (with_reducible repeat (first | refine blk_drewN ?_ _ | refine blk_drew ?_ | refine blk_alloc ?_ _)); refine blk_put (cs := #[.string (⟨#[]⟩ : ByteArray), .string (⟨#[]⟩ : ByteArray), .int .i64 0]) ?_ 0 _ rfl; (with_reducible repeat (first | refine blk_drewN ?_ _ | refine blk_drew ?_ | refine blk_alloc ?_ _)); exact BK230.out⟩, ⟨by repeat (first | (with_reducible first | exact HB.out | apply below_alloc | apply pw_below_drewN | apply below_drew1 | refine below_set ?_ GE230.out) | exact HB.out)⟩⟩
            case rest =>
              clear HC13
              try clear c1
              try clear p2
              try clear c3
              try clear c5
              try clear c6
              try clear c7
              try clear c7b0
              try clear c7b1
              try clear c7b2
              try clear c9
              try clear c9b0
              try clear c9b1
              try clear c9b2
              try clear c11
              try clear c11b0
              try clear c11b1
              try clear c11b2
              try clear c18
              try clear c18b0
              try clear c19
              try clear c19b0
              try clear hcz17_0
              try clear hcz17_1
              try clear hcz17_2
              try clear hfz17_0
              try clear hfz17_1
              try clear hfz17_2
              try clear p2
              obtain ⟨kq, x37_12, rfl, HA, HJ12, BK230, HB⟩ := hcut
              cases kq with
              | zero => exact absurd HA.out (by simp [lockkeeperlaw3_OriginPorts.j1])
              | succ kj12 =>
                have H := HA.out
                clear HA
                simp only [lockkeeperlaw3_OriginPorts.j1] at H
                by_cases c20 : x37_12 = true
                · subst c20
                  have H1 : (if t229 = 3 then (if (t226.toList == ([] : List UInt8) && (t227.toList == ([] : List UInt8) && (t228 == 0))) = true then ((lockkeeperlaw3_awake.f kj12).bind fun t231 => (some t231)) else (some false)) else (some false)) = some r := by rw [if_pos rfl] at H; exact H
                  clear H
                  have H := H1
                  clear H1
                  by_cases c21 : t229 = 3
                  · rw [if_pos c21] at H
                    have c21b0 : (t229 == 3) = true := beq_iff_eq.mpr c21
                    have c21b1 : (t229 != 3) = false := bne_eq_false_iff_eq.mpr c21
                    clear c21
                    by_cases c22 : (t226.toList == ([] : List UInt8) && (t227.toList == ([] : List UInt8) && (t228 == 0))) = true
                    · rw [if_pos c22] at H
                      have c22b0 : (t226.toList == ([] : List UInt8) && (t227.toList == ([] : List UInt8) && (t228 == 0))) = true := c22
                      try have c22b9 : (t226.toList.isEmpty && (t227.toList.isEmpty && (t228 == 0))) = true := (by have e_ : ∀ l : List UInt8, (l == ([] : List UInt8)) = l.isEmpty := (fun l => by cases l <;> rfl); have z_ := c22b0; simp only [e_] at z_; exact z_)
                      (try (have c22b1 : decide (t226.toList = ([] : List UInt8) && (t227.toList == ([] : List UInt8) && (t228 == 0))) = true := by simpa using c22))
                      (try (have c22b2 : (t226.toList == ([] : List UInt8) && (t227.toList == ([] : List UInt8) && (t228 == 0))) = true := by simpa using c22))
                      clear c22
                      replace H := Option.bind_eq_some_iff.mp H
                      obtain ⟨t231, A230, H⟩ := H
                      replace H : (some t231) = some r := H
                      have A23 := Aside0.mk A230
                      clear A230
                      obtain rfl := Option.some.inj H
                      have hcz24_0 : wc.cell? ⟨gb230, 0, none⟩ = some (.string t226) := (blk_cell BK230.out 0).trans rfl
                      have hcz24_1 : wc.cell? ⟨gb230, 1, none⟩ = some (.string t227) := (blk_cell BK230.out 1).trans rfl
                      have hcz24_2 : wc.cell? ⟨gb230, 2, none⟩ = some (.int .i64 t228) := (blk_cell BK230.out 2).trans rfl
                      have hfz24_0 := blk_frozen BK230.out 0
                      have hfz24_1 := blk_frozen BK230.out 1
                      have hfz24_2 := blk_frozen BK230.out 2
                      go_wp2_with (first | (go_at_call 18; (with_reducible refine (lockkeeperlaw3_awake.calls kj12  t231 _ ?side1 A23.out).mono ?_); (case side1 => exact ⟨by repeat (first | exact hM_.out | exact LaidW.below hM_.out HB.out | (with_reducible refine LaidW.alloc ?_ _) | (with_reducible refine LaidW.drewN ?_ _) | (with_reducible refine LaidW.drew ?_) | exact LaidW.below hM_.out (by repeat (first | (with_reducible first | exact HB.out | apply below_alloc | apply pw_below_drewN | apply below_drew1 | refine below_set ?_ GE230.out) | exact HB.out)))⟩); rintro e w25 ⟨rfl, hb⟩; have n0_ := Aside0.mk (blk_below (g := gb230) (o := .cells #[.string t226, .string t227, .int .i64 t228] 23 (0, 0)) (by (with_reducible repeat (first | refine blk_drewN ?_ _ | refine blk_drew ?_ | refine blk_alloc ?_ _)); exact BK230.out) hb); have n1_ := Aside0.mk (below_step (by repeat (first | (with_reducible first | exact HB.out | apply below_alloc | apply pw_below_drewN | apply below_drew1 | refine below_set ?_ GE230.out) | exact HB.out)) hb); clear BK230; clear HB; have BK230 := n0_; have HB := n1_; clear n0_ n1_; (try clear hb); (try clear hb2); (try clear hk); (try clear hi)))
                      go_ret
                      exact ⟨by first | rfl | (simp [errW_none, errW_some] <;> rfl) | (simp [*, errW_none, errW_some] <;> rfl), by repeat (first | (with_reducible first | exact HB.out | apply below_alloc | apply pw_below_drewN | apply below_drew1 | refine below_set ?_ GE230.out) | exact HB.out)⟩
                    · rw [if_neg c22] at H
                      have c22b0 : (t226.toList == ([] : List UInt8) && (t227.toList == ([] : List UInt8) && (t228 == 0))) = false := by simpa using c22
                      try have c22b9 : (t226.toList.isEmpty && (t227.toList.isEmpty && (t228 == 0))) = false := (by have e_ : ∀ l : List UInt8, (l == ([] : List UInt8)) = l.isEmpty := (fun l => by cases l <;> rfl); have z_ := c22b0; simp only [e_] at z_; exact z_)
                      (try (have c22b1 : decide (t226.toList = ([] : List UInt8) && (t227.toList == ([] : List UInt8) && (t228 == 0))) = false := by simpa using c22))
                      (try (have c22b2 : (t226.toList == ([] : List UInt8) && (t227.toList == ([] : List UInt8) && (t228 == 0))) = false := by simpa using c22))
                      (try (have c22b3 : ¬ (t226.toList = ([] : List UInt8) && (t227.toList == ([] : List UInt8) && (t228 == 0))) := by simpa using c22))
                      clear c22
                      obtain rfl := Option.some.inj H
                      have hcz26_0 : wc.cell? ⟨gb230, 0, none⟩ = some (.string t226) := (blk_cell BK230.out 0).trans rfl
                      have hcz26_1 : wc.cell? ⟨gb230, 1, none⟩ = some (.string t227) := (blk_cell BK230.out 1).trans rfl
                      have hcz26_2 : wc.cell? ⟨gb230, 2, none⟩ = some (.int .i64 t228) := (blk_cell BK230.out 2).trans rfl
                      have hfz26_0 := blk_frozen BK230.out 0
                      have hfz26_1 := blk_frozen BK230.out 1
                      have hfz26_2 := blk_frozen BK230.out 2
                      go_wp2
                      go_ret
                      exact ⟨by first | rfl | (simp [errW_none, errW_some] <;> rfl) | (simp [*, errW_none, errW_some] <;> rfl), by repeat (first | (with_reducible first | exact HB.out | apply below_alloc | apply pw_below_drewN | apply below_drew1 | refine below_set ?_ GE230.out) | exact HB.out)⟩
                  · rw [if_neg c21] at H
                    have c21b0 : (t229 == 3) = false := beq_eq_false_iff_ne.mpr c21
                    have c21b1 : (t229 != 3) = true := bne_iff_ne.mpr c21
                    obtain rfl := Option.some.inj H
                    go_wp2
                    go_ret
                    exact ⟨by first | rfl | (simp [errW_none, errW_some] <;> rfl) | (simp [*, errW_none, errW_some] <;> rfl), by repeat (first | (with_reducible first | exact HB.out | apply below_alloc | apply pw_below_drewN | apply below_drew1 | refine below_set ?_ GE230.out) | exact HB.out)⟩
                · replace c20 := Bool.eq_false_iff.mpr c20
                  subst c20
                  have H1 : (if x7_3.size + 4 ≤ 9223372036854775807 then (if a0 = x8_3 then (if t229 = 0 then (if t228 = (wrap64 (a0)) then ((origin_Show.f kj12 t226 t227 t228).bind fun t232 => (if t232.toList = (x7_3 ++ (⟨#[58, 47, 47, 104]⟩ : ByteArray)).toList then ((lockkeeperlaw3_awake.f kj12).bind fun t233 => (some t233)) else (some false))) else (some false)) else (some false)) else (if (x7_3 ++ (⟨#[58, 47, 47, 104]⟩ : ByteArray)).size + 1 ≤ 9223372036854775807 then ((lockkeeperref1_Num.f kj12 a0).bind fun t234 => (if ((x7_3 ++ (⟨#[58, 47, 47, 104]⟩ : ByteArray)) ++ (⟨#[58]⟩ : ByteArray)).size + t234.size ≤ 9223372036854775807 then (if t229 = 0 then (if t228 = (wrap64 (a0)) then ((origin_Show.f kj12 t226 t227 t228).bind fun t235 => (if t235.toList = (((x7_3 ++ (⟨#[58, 47, 47, 104]⟩ : ByteArray)) ++ (⟨#[58]⟩ : ByteArray)) ++ t234).toList then ((lockkeeperlaw3_awake.f kj12).bind fun t236 => (some t236)) else (some false))) else (some false)) else (some false)) else (none))) else (none))) else (none)) = some r := by rw [if_neg (show ¬ (false = true) by decide)] at H; exact H
                  clear H
                  have H := H1
                  clear H1
                  by_cases c27 : x7_3.size + 4 ≤ 9223372036854775807
                  · rw [if_pos c27] at H
                    have c27b0 := eq_true c27
                    have c27b1 : decide (x7_3.size + 4 ≤ 9223372036854775807) = true := decide_eq_true c27
                    try have c27b2 : (9223372036854775807 < x7_3.size + 4) = False := eq_false (Nat.not_lt.2 c27)
                    by_cases c28 : a0 = x8_3
                    · rw [if_pos c28] at H
                      have c28b0 : (a0 == x8_3) = true := beq_iff_eq.mpr c28
                      have c28b1 : (a0 != x8_3) = false := bne_eq_false_iff_eq.mpr c28
                      clear c28
                      by_cases c29 : t229 = 0
                      · rw [if_pos c29] at H
                        have c29b0 : (t229 == 0) = true := beq_iff_eq.mpr c29
                        have c29b1 : (t229 != 0) = false := bne_eq_false_iff_eq.mpr c29
                        clear c29
                        by_cases c30 : t228 = (wrap64 (a0))
                        · rw [if_pos c30] at H
                          have c30b0 : (t228 == (wrap64 (a0))) = true := beq_iff_eq.mpr c30
                          have c30b1 : (t228 != (wrap64 (a0))) = false := bne_eq_false_iff_eq.mpr c30
                          clear c30
                          replace H := Option.bind_eq_some_iff.mp H
                          obtain ⟨t232, A310, H⟩ := H
                          replace H : (if t232.toList = (x7_3 ++ (⟨#[58, 47, 47, 104]⟩ : ByteArray)).toList then ((lockkeeperlaw3_awake.f kj12).bind fun t233 => (some t233)) else (some false)) = some r := H
                          have A31 := Aside0.mk A310
                          clear A310
                          by_cases c32 : t232.toList = (x7_3 ++ (⟨#[58, 47, 47, 104]⟩ : ByteArray)).toList
                          · rw [if_pos c32] at H
                            have c32b0 : (t232.toList == (x7_3 ++ (⟨#[58, 47, 47, 104]⟩ : ByteArray)).toList) = true := beq_iff_eq.mpr c32
                            have c32b1 : (t232.toList != (x7_3 ++ (⟨#[58, 47, 47, 104]⟩ : ByteArray)).toList) = false := bne_eq_false_iff_eq.mpr c32
                            clear c32
                            replace H := Option.bind_eq_some_iff.mp H
                            obtain ⟨t233, A330, H⟩ := H
                            replace H : (some t233) = some r := H
                            have A33 := Aside0.mk A330
                            clear A330
                            obtain rfl := Option.some.inj H
                            have hcz34_0 : wc.cell? ⟨gb230, 0, none⟩ = some (.string t226) := (blk_cell BK230.out 0).trans rfl
                            have hcz34_1 : wc.cell? ⟨gb230, 1, none⟩ = some (.string t227) := (blk_cell BK230.out 1).trans rfl
                            have hcz34_2 : wc.cell? ⟨gb230, 2, none⟩ = some (.int .i64 t228) := (blk_cell BK230.out 2).trans rfl
                            have hfz34_0 := blk_frozen BK230.out 0
                            have hfz34_1 := blk_frozen BK230.out 1
                            have hfz34_2 := blk_frozen BK230.out 2
                            go_wp2_with (first | (go_at_call 23; (with_reducible refine (origin_Show.calls kj12 t226 t227 t228 t232 _ ?side1 A31.out).mono ?_); (case side1 => exact ⟨by repeat (first | exact hM_.out | exact LaidW.below hM_.out HB.out | (with_reducible refine LaidW.alloc ?_ _) | (with_reducible refine LaidW.drewN ?_ _) | (with_reducible refine LaidW.drew ?_) | exact LaidW.below hM_.out (by repeat (first | (with_reducible first | exact HB.out | apply below_alloc | apply pw_below_drewN | apply below_drew1 | refine below_set ?_ GE230.out) | exact HB.out)))⟩); rintro e w35 ⟨rfl, hb⟩; have n0_ := Aside0.mk (blk_below (g := gb230) (o := .cells #[.string t226, .string t227, .int .i64 t228] 23 (0, 0)) (by (with_reducible repeat (first | refine blk_drewN ?_ _ | refine blk_drew ?_ | refine blk_alloc ?_ _)); exact BK230.out) hb); have n1_ := Aside0.mk (below_step (by repeat (first | (with_reducible first | exact HB.out | apply below_alloc | apply pw_below_drewN | apply below_drew1 | refine below_set ?_ GE230.out) | exact HB.out)) hb); clear BK230; clear HB; have BK230 := n0_; have HB := n1_; clear n0_ n1_; (try clear hb); (try clear hb2); (try clear hk); (try clear hi)) | (go_at_call 18; (with_reducible refine (lockkeeperlaw3_awake.calls kj12  t233 _ ?side1 A33.out).mono ?_); (case side1 => exact ⟨by repeat (first | exact hM_.out | exact LaidW.below hM_.out HB.out | (with_reducible refine LaidW.alloc ?_ _) | (with_reducible refine LaidW.drewN ?_ _) | (with_reducible refine LaidW.drew ?_) | exact LaidW.below hM_.out (by repeat (first | (with_reducible first | exact HB.out | apply below_alloc | apply pw_below_drewN | apply below_drew1 | refine below_set ?_ GE230.out) | exact HB.out)))⟩); rintro e w36 ⟨rfl, hb⟩; have n0_ := Aside0.mk (blk_below (g := gb230) (o := .cells #[.string t226, .string t227, .int .i64 t228] 23 (0, 0)) (by (with_reducible repeat (first | refine blk_drewN ?_ _ | refine blk_drew ?_ | refine blk_alloc ?_ _)); exact BK230.out) hb); have n1_ := Aside0.mk (below_step (by repeat (first | (with_reducible first | exact HB.out | apply below_alloc | apply pw_below_drewN | apply below_drew1 | refine below_set ?_ GE230.out) | exact HB.out)) hb); clear BK230; clear HB; have BK230 := n0_; have HB := n1_; clear n0_ n1_; (try clear hb); (try clear hb2); (try clear hk); (try clear hi)))
                            go_ret
                            exact ⟨by first | rfl | (simp [errW_none, errW_some] <;> rfl) | (simp [*, errW_none, errW_some] <;> rfl), by repeat (first | (with_reducible first | exact HB.out | apply below_alloc | apply pw_below_drewN | apply below_drew1 | refine below_set ?_ GE230.out) | exact HB.out)⟩
                          · rw [if_neg c32] at H
                            have c32b0 : (t232.toList == (x7_3 ++ (⟨#[58, 47, 47, 104]⟩ : ByteArray)).toList) = false := beq_eq_false_iff_ne.mpr c32
                            have c32b1 : (t232.toList != (x7_3 ++ (⟨#[58, 47, 47, 104]⟩ : ByteArray)).toList) = true := bne_iff_ne.mpr c32
                            obtain rfl := Option.some.inj H
                            have hcz37_0 : wc.cell? ⟨gb230, 0, none⟩ = some (.string t226) := (blk_cell BK230.out 0).trans rfl
                            have hcz37_1 : wc.cell? ⟨gb230, 1, none⟩ = some (.string t227) := (blk_cell BK230.out 1).trans rfl
                            have hcz37_2 : wc.cell? ⟨gb230, 2, none⟩ = some (.int .i64 t228) := (blk_cell BK230.out 2).trans rfl
                            have hfz37_0 := blk_frozen BK230.out 0
                            have hfz37_1 := blk_frozen BK230.out 1
                            have hfz37_2 := blk_frozen BK230.out 2
                            go_wp2_with (first | (go_at_call 23; (with_reducible refine (origin_Show.calls kj12 t226 t227 t228 t232 _ ?side1 A31.out).mono ?_); (case side1 => exact ⟨by repeat (first | exact hM_.out | exact LaidW.below hM_.out HB.out | (with_reducible refine LaidW.alloc ?_ _) | (with_reducible refine LaidW.drewN ?_ _) | (with_reducible refine LaidW.drew ?_) | exact LaidW.below hM_.out (by repeat (first | (with_reducible first | exact HB.out | apply below_alloc | apply pw_below_drewN | apply below_drew1 | refine below_set ?_ GE230.out) | exact HB.out)))⟩); rintro e w38 ⟨rfl, hb⟩; have n0_ := Aside0.mk (blk_below (g := gb230) (o := .cells #[.string t226, .string t227, .int .i64 t228] 23 (0, 0)) (by (with_reducible repeat (first | refine blk_drewN ?_ _ | refine blk_drew ?_ | refine blk_alloc ?_ _)); exact BK230.out) hb); have n1_ := Aside0.mk (below_step (by repeat (first | (with_reducible first | exact HB.out | apply below_alloc | apply pw_below_drewN | apply below_drew1 | refine below_set ?_ GE230.out) | exact HB.out)) hb); clear BK230; clear HB; have BK230 := n0_; have HB := n1_; clear n0_ n1_; (try clear hb); (try clear hb2); (try clear hk); (try clear hi)))
                            go_ret
                            exact ⟨by first | rfl | (simp [errW_none, errW_some] <;> rfl) | (simp [*, errW_none, errW_some] <;> rfl), by repeat (first | (with_reducible first | exact HB.out | apply below_alloc | apply pw_below_drewN | apply below_drew1 | refine below_set ?_ GE230.out) | exact HB.out)⟩
                        · rw [if_neg c30] at H
                          have c30b0 : (t228 == (wrap64 (a0))) = false := beq_eq_false_iff_ne.mpr c30
                          have c30b1 : (t228 != (wrap64 (a0))) = true := bne_iff_ne.mpr c30
                          obtain rfl := Option.some.inj H
                          have hcz39_0 : wc.cell? ⟨gb230, 0, none⟩ = some (.string t226) := (blk_cell BK230.out 0).trans rfl
                          have hcz39_1 : wc.cell? ⟨gb230, 1, none⟩ = some (.string t227) := (blk_cell BK230.out 1).trans rfl
                          have hcz39_2 : wc.cell? ⟨gb230, 2, none⟩ = some (.int .i64 t228) := (blk_cell BK230.out 2).trans rfl
                          have hfz39_0 := blk_frozen BK230.out 0
                          have hfz39_1 := blk_frozen BK230.out 1
                          have hfz39_2 := blk_frozen BK230.out 2
                          go_wp2
                          go_ret
                          exact ⟨by first | rfl | (simp [errW_none, errW_some] <;> rfl) | (simp [*, errW_none, errW_some] <;> rfl), by repeat (first | (with_reducible first | exact HB.out | apply below_alloc | apply pw_below_drewN | apply below_drew1 | refine below_set ?_ GE230.out) | exact HB.out)⟩
                      · rw [if_neg c29] at H
                        have c29b0 : (t229 == 0) = false := beq_eq_false_iff_ne.mpr c29
                        have c29b1 : (t229 != 0) = true := bne_iff_ne.mpr c29
                        obtain rfl := Option.some.inj H
                        go_wp2
                        go_ret
                        exact ⟨by first | rfl | (simp [errW_none, errW_some] <;> rfl) | (simp [*, errW_none, errW_some] <;> rfl), by repeat (first | (with_reducible first | exact HB.out | apply below_alloc | apply pw_below_drewN | apply below_drew1 | refine below_set ?_ GE230.out) | exact HB.out)⟩
                    · rw [if_neg c28] at H
                      have c28b0 : (a0 == x8_3) = false := beq_eq_false_iff_ne.mpr c28
                      have c28b1 : (a0 != x8_3) = true := bne_iff_ne.mpr c28
                      by_cases c40 : (x7_3 ++ (⟨#[58, 47, 47, 104]⟩ : ByteArray)).size + 1 ≤ 9223372036854775807
                      · rw [if_pos c40] at H
                        try (have c40b5 := c40; simp only [ByteArray.size_append, Int.natCast_add] at c40b5)
                        have c40b0 := eq_true c40
                        have c40b1 : decide ((x7_3 ++ (⟨#[58, 47, 47, 104]⟩ : ByteArray)).size + 1 ≤ 9223372036854775807) = true := decide_eq_true c40
                        try have c40b2 : (9223372036854775807 < (x7_3 ++ (⟨#[58, 47, 47, 104]⟩ : ByteArray)).size + 1) = False := eq_false (Nat.not_lt.2 c40)
                        try have c40b3 : (9223372036854775807 < x7_3.size + 4 + 1) = False := eq_false (Nat.not_lt.2 (by have z_ := c40; simp only [ByteArray.size_append] at z_; first | exact z_ | simpa using z_))
                        replace H := Option.bind_eq_some_iff.mp H
                        obtain ⟨t234, A410, H⟩ := H
                        replace H : (if ((x7_3 ++ (⟨#[58, 47, 47, 104]⟩ : ByteArray)) ++ (⟨#[58]⟩ : ByteArray)).size + t234.size ≤ 9223372036854775807 then (if t229 = 0 then (if t228 = (wrap64 (a0)) then ((origin_Show.f kj12 t226 t227 t228).bind fun t235 => (if t235.toList = (((x7_3 ++ (⟨#[58, 47, 47, 104]⟩ : ByteArray)) ++ (⟨#[58]⟩ : ByteArray)) ++ t234).toList then ((lockkeeperlaw3_awake.f kj12).bind fun t236 => (some t236)) else (some false))) else (some false)) else (some false)) else (none)) = some r := H
                        have A41 := Aside0.mk A410
                        clear A410
                        by_cases c42 : ((x7_3 ++ (⟨#[58, 47, 47, 104]⟩ : ByteArray)) ++ (⟨#[58]⟩ : ByteArray)).size + t234.size ≤ 9223372036854775807
                        · rw [if_pos c42] at H
                          try (have c42b5 := c42; simp only [ByteArray.size_append, Int.natCast_add] at c42b5)
                          have c42b0 := eq_true c42
                          have c42b1 : decide (((x7_3 ++ (⟨#[58, 47, 47, 104]⟩ : ByteArray)) ++ (⟨#[58]⟩ : ByteArray)).size + t234.size ≤ 9223372036854775807) = true := decide_eq_true c42
                          try have c42b2 : (9223372036854775807 < ((x7_3 ++ (⟨#[58, 47, 47, 104]⟩ : ByteArray)) ++ (⟨#[58]⟩ : ByteArray)).size + t234.size) = False := eq_false (Nat.not_lt.2 c42)
                          try have c42b3 : (9223372036854775807 < x7_3.size + 4 + 1 + t234.size) = False := eq_false (Nat.not_lt.2 (by have z_ := c42; simp only [ByteArray.size_append] at z_; first | exact z_ | simpa using z_))
                          by_cases c43 : t229 = 0
                          · rw [if_pos c43] at H
                            have c43b0 : (t229 == 0) = true := beq_iff_eq.mpr c43
                            have c43b1 : (t229 != 0) = false := bne_eq_false_iff_eq.mpr c43
                            clear c43
                            by_cases c44 : t228 = (wrap64 (a0))
                            · rw [if_pos c44] at H
                              have c44b0 : (t228 == (wrap64 (a0))) = true := beq_iff_eq.mpr c44
                              have c44b1 : (t228 != (wrap64 (a0))) = false := bne_eq_false_iff_eq.mpr c44
                              clear c44
                              replace H := Option.bind_eq_some_iff.mp H
                              obtain ⟨t235, A450, H⟩ := H
                              replace H : (if t235.toList = (((x7_3 ++ (⟨#[58, 47, 47, 104]⟩ : ByteArray)) ++ (⟨#[58]⟩ : ByteArray)) ++ t234).toList then ((lockkeeperlaw3_awake.f kj12).bind fun t236 => (some t236)) else (some false)) = some r := H
                              have A45 := Aside0.mk A450
                              clear A450
                              by_cases c46 : t235.toList = (((x7_3 ++ (⟨#[58, 47, 47, 104]⟩ : ByteArray)) ++ (⟨#[58]⟩ : ByteArray)) ++ t234).toList
                              · rw [if_pos c46] at H
                                have c46b0 : (t235.toList == (((x7_3 ++ (⟨#[58, 47, 47, 104]⟩ : ByteArray)) ++ (⟨#[58]⟩ : ByteArray)) ++ t234).toList) = true := beq_iff_eq.mpr c46
                                have c46b1 : (t235.toList != (((x7_3 ++ (⟨#[58, 47, 47, 104]⟩ : ByteArray)) ++ (⟨#[58]⟩ : ByteArray)) ++ t234).toList) = false := bne_eq_false_iff_eq.mpr c46
                                clear c46
                                replace H := Option.bind_eq_some_iff.mp H
                                obtain ⟨t236, A470, H⟩ := H
                                replace H : (some t236) = some r := H
                                have A47 := Aside0.mk A470
                                clear A470
                                obtain rfl := Option.some.inj H
                                go_wp2_with (first | ((with_reducible refine gate_callee (f := 32) rfl ?_); refine goesL_ (some 56) rfl rfl Tryd.func32 (by kernel_rfl) rfl #[.int .u64 a0] rfl (by (try simp only [List.map_toArray, List.map_cons, List.map_nil]); first | done | rfl | (simp only [List.length_drop, List.length_take]; rfl)) ?_; (with_reducible refine (lockkeeperref1_Num.calls kj12 a0 t234 _ A41.out).mono ?_); rintro e w' ⟨rfl, ⟨nd, rfl⟩⟩; refine ⟨_, rfl, ?_⟩; have hcz48_0 : wc.cell? ⟨gb230, 0, none⟩ = some (.string t226) := (blk_cell BK230.out 0).trans rfl; have hcz48_1 : wc.cell? ⟨gb230, 1, none⟩ = some (.string t227) := (blk_cell BK230.out 1).trans rfl; have hcz48_2 : wc.cell? ⟨gb230, 2, none⟩ = some (.int .i64 t228) := (blk_cell BK230.out 2).trans rfl; have hfz48_0 := blk_frozen BK230.out 0; have hfz48_1 := blk_frozen BK230.out 1; have hfz48_2 := blk_frozen BK230.out 2) | (go_at_call 23; (with_reducible refine (origin_Show.calls kj12 t226 t227 t228 t235 _ ?side1 A45.out).mono ?_); (case side1 => exact ⟨by repeat (first | exact hM_.out | exact LaidW.below hM_.out HB.out | (with_reducible refine LaidW.alloc ?_ _) | (with_reducible refine LaidW.drewN ?_ _) | (with_reducible refine LaidW.drew ?_) | exact LaidW.below hM_.out (by repeat (first | (with_reducible first | exact HB.out | apply below_alloc | apply pw_below_drewN | apply below_drew1 | refine below_set ?_ GE230.out) | exact HB.out)))⟩); rintro e w49 ⟨rfl, hb⟩; have n0_ := Aside0.mk (blk_below (g := gb230) (o := .cells #[.string t226, .string t227, .int .i64 t228] 23 (0, 0)) (by (with_reducible repeat (first | refine blk_drewN ?_ _ | refine blk_drew ?_ | refine blk_alloc ?_ _)); exact BK230.out) hb); have n1_ := Aside0.mk (below_step (by repeat (first | (with_reducible first | exact HB.out | apply below_alloc | apply pw_below_drewN | apply below_drew1 | refine below_set ?_ GE230.out) | exact HB.out)) hb); clear BK230; clear HB; have BK230 := n0_; have HB := n1_; clear n0_ n1_; (try clear hb); (try clear hb2); (try clear hk); (try clear hi)) | (go_at_call 18; (with_reducible refine (lockkeeperlaw3_awake.calls kj12  t236 _ ?side1 A47.out).mono ?_); (case side1 => exact ⟨by repeat (first | exact hM_.out | exact LaidW.below hM_.out HB.out | (with_reducible refine LaidW.alloc ?_ _) | (with_reducible refine LaidW.drewN ?_ _) | (with_reducible refine LaidW.drew ?_) | exact LaidW.below hM_.out (by repeat (first | (with_reducible first | exact HB.out | apply below_alloc | apply pw_below_drewN | apply below_drew1 | refine below_set ?_ GE230.out) | exact HB.out)))⟩); rintro e w50 ⟨rfl, hb⟩; have n0_ := Aside0.mk (blk_below (g := gb230) (o := .cells #[.string t226, .string t227, .int .i64 t228] 23 (0, 0)) (by (with_reducible repeat (first | refine blk_drewN ?_ _ | refine blk_drew ?_ | refine blk_alloc ?_ _)); exact BK230.out) hb); have n1_ := Aside0.mk (below_step (by repeat (first | (with_reducible first | exact HB.out | apply below_alloc | apply pw_below_drewN | apply below_drew1 | refine below_set ?_ GE230.out) | exact HB.out)) hb); clear BK230; clear HB; have BK230 := n0_; have HB := n1_; clear n0_ n1_; (try clear hb); (try clear hb2); (try clear hk); (try clear hi)))
                                go_ret
                                exact ⟨by first | rfl | (simp [errW_none, errW_some] <;> rfl) | (simp [*, errW_none, errW_some] <;> rfl), by repeat (first | (with_reducible first | exact HB.out | apply below_alloc | apply pw_below_drewN | apply below_drew1 | refine below_set ?_ GE230.out) | exact HB.out)⟩
                              · rw [if_neg c46] at H
                                have c46b0 : (t235.toList == (((x7_3 ++ (⟨#[58, 47, 47, 104]⟩ : ByteArray)) ++ (⟨#[58]⟩ : ByteArray)) ++ t234).toList) = false := beq_eq_false_iff_ne.mpr c46
                                have c46b1 : (t235.toList != (((x7_3 ++ (⟨#[58, 47, 47, 104]⟩ : ByteArray)) ++ (⟨#[58]⟩ : ByteArray)) ++ t234).toList) = true := bne_iff_ne.mpr c46
                                obtain rfl := Option.some.inj H
                                go_wp2_with (first | ((with_reducible refine gate_callee (f := 32) rfl ?_); refine goesL_ (some 56) rfl rfl Tryd.func32 (by kernel_rfl) rfl #[.int .u64 a0] rfl (by (try simp only [List.map_toArray, List.map_cons, List.map_nil]); first | done | rfl | (simp only [List.length_drop, List.length_take]; rfl)) ?_; (with_reducible refine (lockkeeperref1_Num.calls kj12 a0 t234 _ A41.out).mono ?_); rintro e w' ⟨rfl, ⟨nd, rfl⟩⟩; refine ⟨_, rfl, ?_⟩; have hcz51_0 : wc.cell? ⟨gb230, 0, none⟩ = some (.string t226) := (blk_cell BK230.out 0).trans rfl; have hcz51_1 : wc.cell? ⟨gb230, 1, none⟩ = some (.string t227) := (blk_cell BK230.out 1).trans rfl; have hcz51_2 : wc.cell? ⟨gb230, 2, none⟩ = some (.int .i64 t228) := (blk_cell BK230.out 2).trans rfl; have hfz51_0 := blk_frozen BK230.out 0; have hfz51_1 := blk_frozen BK230.out 1; have hfz51_2 := blk_frozen BK230.out 2) | (go_at_call 23; (with_reducible refine (origin_Show.calls kj12 t226 t227 t228 t235 _ ?side1 A45.out).mono ?_); (case side1 => exact ⟨by repeat (first | exact hM_.out | exact LaidW.below hM_.out HB.out | (with_reducible refine LaidW.alloc ?_ _) | (with_reducible refine LaidW.drewN ?_ _) | (with_reducible refine LaidW.drew ?_) | exact LaidW.below hM_.out (by repeat (first | (with_reducible first | exact HB.out | apply below_alloc | apply pw_below_drewN | apply below_drew1 | refine below_set ?_ GE230.out) | exact HB.out)))⟩); rintro e w52 ⟨rfl, hb⟩; have n0_ := Aside0.mk (blk_below (g := gb230) (o := .cells #[.string t226, .string t227, .int .i64 t228] 23 (0, 0)) (by (with_reducible repeat (first | refine blk_drewN ?_ _ | refine blk_drew ?_ | refine blk_alloc ?_ _)); exact BK230.out) hb); have n1_ := Aside0.mk (below_step (by repeat (first | (with_reducible first | exact HB.out | apply below_alloc | apply pw_below_drewN | apply below_drew1 | refine below_set ?_ GE230.out) | exact HB.out)) hb); clear BK230; clear HB; have BK230 := n0_; have HB := n1_; clear n0_ n1_; (try clear hb); (try clear hb2); (try clear hk); (try clear hi)))
                                go_ret
                                exact ⟨by first | rfl | (simp [errW_none, errW_some] <;> rfl) | (simp [*, errW_none, errW_some] <;> rfl), by repeat (first | (with_reducible first | exact HB.out | apply below_alloc | apply pw_below_drewN | apply below_drew1 | refine below_set ?_ GE230.out) | exact HB.out)⟩
                            · rw [if_neg c44] at H
                              have c44b0 : (t228 == (wrap64 (a0))) = false := beq_eq_false_iff_ne.mpr c44
                              have c44b1 : (t228 != (wrap64 (a0))) = true := bne_iff_ne.mpr c44
                              obtain rfl := Option.some.inj H
                              go_wp2_with (first | ((with_reducible refine gate_callee (f := 32) rfl ?_); refine goesL_ (some 56) rfl rfl Tryd.func32 (by kernel_rfl) rfl #[.int .u64 a0] rfl (by (try simp only [List.map_toArray, List.map_cons, List.map_nil]); first | done | rfl | (simp only [List.length_drop, List.length_take]; rfl)) ?_; (with_reducible refine (lockkeeperref1_Num.calls kj12 a0 t234 _ A41.out).mono ?_); rintro e w' ⟨rfl, ⟨nd, rfl⟩⟩; refine ⟨_, rfl, ?_⟩; have hcz53_0 : wc.cell? ⟨gb230, 0, none⟩ = some (.string t226) := (blk_cell BK230.out 0).trans rfl; have hcz53_1 : wc.cell? ⟨gb230, 1, none⟩ = some (.string t227) := (blk_cell BK230.out 1).trans rfl; have hcz53_2 : wc.cell? ⟨gb230, 2, none⟩ = some (.int .i64 t228) := (blk_cell BK230.out 2).trans rfl; have hfz53_0 := blk_frozen BK230.out 0; have hfz53_1 := blk_frozen BK230.out 1; have hfz53_2 := blk_frozen BK230.out 2))
                              go_ret
                              exact ⟨by first | rfl | (simp [errW_none, errW_some] <;> rfl) | (simp [*, errW_none, errW_some] <;> rfl), by repeat (first | (with_reducible first | exact HB.out | apply below_alloc | apply pw_below_drewN | apply below_drew1 | refine below_set ?_ GE230.out) | exact HB.out)⟩
                          · rw [if_neg c43] at H
                            have c43b0 : (t229 == 0) = false := beq_eq_false_iff_ne.mpr c43
                            have c43b1 : (t229 != 0) = true := bne_iff_ne.mpr c43
                            obtain rfl := Option.some.inj H
                            go_wp2_with (first | ((with_reducible refine gate_callee (f := 32) rfl ?_); refine goesL_ (some 56) rfl rfl Tryd.func32 (by kernel_rfl) rfl #[.int .u64 a0] rfl (by (try simp only [List.map_toArray, List.map_cons, List.map_nil]); first | done | rfl | (simp only [List.length_drop, List.length_take]; rfl)) ?_; (with_reducible refine (lockkeeperref1_Num.calls kj12 a0 t234 _ A41.out).mono ?_); rintro e w' ⟨rfl, ⟨nd, rfl⟩⟩; refine ⟨_, rfl, ?_⟩))
                            go_ret
                            exact ⟨by first | rfl | (simp [errW_none, errW_some] <;> rfl) | (simp [*, errW_none, errW_some] <;> rfl), by repeat (first | (with_reducible first | exact HB.out | apply below_alloc | apply pw_below_drewN | apply below_drew1 | refine below_set ?_ GE230.out) | exact HB.out)⟩
                        · rw [if_neg c42] at H
                          exact absurd H (by simp)
                      · rw [if_neg c40] at H
                        exact absurd H (by simp)
                  · rw [if_neg c27] at H
                    exact absurd H (by simp)
          · rw [if_neg c11] at H
            exact absurd H (by simp)
        · rw [if_neg c9] at H
          exact absurd H (by simp)
      · rw [if_neg c7] at H
        exact absurd H (by simp)

end Go.Proofs.YtbfbidifodcedaaDoor.Pr
