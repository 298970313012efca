-- Made by a program of this session (wip/xp/xp.py), over the print's words.
import Derived.Test.YtbfbidifodcedaaDoorPr0
import Derived.Test.YtbfbidifodcedaaDoorPr5
import Derived.Test.YtbfbidifodcedaaDoorPr11
import Derived.Test.YtbfbidifodcedaaDoorPr13
import Derived.Test.YtbfbidifodcedaaDoorG0
import Derived.Test.YtbfbidifodcedaaDoorG1
import Derived.Test.YtbfbidifodcedaaDoorG5
namespace Go.Proofs.YtbfbidifodcedaaDoor.Pr
open Go.RowKit Go.Proofs.YtbfbidifodcedaaDoorW.PrintWords Go.Proofs.YtbfbidifodcedaaDoorW.PrintLast Go.Proofs.YtbfbidifodcedaaDoorW.PrintMore
attribute [local go_sem] max2_int min2_int max_two min_two max_three min_three max_four min_four   -- for this text's walks alone
set_option linter.unusedVariables false
set_option linter.unusedSimpArgs false

/-! ### lockkeeperlaw4_TargetSegments: function 13 -/
mutual
def lockkeeperlaw4_TargetSegments.j0 : Nat → List Int → Int → Bool → Option (Bool)
 | 0, _, _, _ => none
 | k + 1, x0, x1, x19 => if x19 = true then ((lockkeeperlaw4_awake.f k).bind fun t222 => (some t222)) else (lockkeeperlaw4_TargetSegments.l0 k x0 x1 (⟨#[]⟩ : ByteArray) ([] : List ByteArray) 0)
def lockkeeperlaw4_TargetSegments.l0 : Nat → List Int → Int → ByteArray → List ByteArray → Int → Option (Bool)
 | 0, _, _, _, _, _ => none
 | k + 1, x0, x1, x5, x6, x7 => if x7 < (x0.length : Int) then (if 0 ≤ x7 then ((lockkeeperlaw0_Low.f (rd x0 x7) 8).bind fun t224 => (if 0 ≤ t224 then (if t224 < 8 then ((lockkeeperlaw0_Low.f (rd x0 x7) 8).bind fun t226 => (if x5.size + 1 ≤ 9223372036854775807 then ((lockkeeperlaw0_Flip.f (rdOf ByteArray.empty ([(⟨#[97]⟩ : ByteArray), (⟨#[]⟩ : ByteArray), (⟨#[98, 99]⟩ : ByteArray), (⟨#[46, 46, 46]⟩ : ByteArray), (⟨#[46]⟩ : ByteArray), (⟨#[37, 50, 101]⟩ : ByteArray), (⟨#[46, 46]⟩ : ByteArray), (⟨#[37, 50, 101, 46]⟩ : ByteArray)] : List ByteArray) t224) x1).bind fun t227 => (if (x5 ++ (⟨#[47]⟩ : ByteArray)).size + t227.size ≤ 9223372036854775807 then (if t226 < 4 then ((lockkeeperlaw0_Flip.f (rdOf ByteArray.empty ([(⟨#[97]⟩ : ByteArray), (⟨#[]⟩ : ByteArray), (⟨#[98, 99]⟩ : ByteArray), (⟨#[46, 46, 46]⟩ : ByteArray), (⟨#[46]⟩ : ByteArray), (⟨#[37, 50, 101]⟩ : ByteArray), (⟨#[46, 46]⟩ : ByteArray), (⟨#[37, 50, 101, 46]⟩ : ByteArray)] : List ByteArray) t224) x1).bind fun t228 => (if x6.length < 8796093022208 then (lockkeeperlaw4_TargetSegments.l0 k x0 x1 ((x5 ++ (⟨#[47]⟩ : ByteArray)) ++ t227) (x6 ++ [t228]) (wrap64 (x7 + 1))) else (none))) else (if t226 > 5 then (lockkeeperlaw4_TargetSegments.j2 k x0 x1 ((x5 ++ (⟨#[47]⟩ : ByteArray)) ++ t227) x6 x7 (decide ((x6.length : Int) > 0))) else (lockkeeperlaw4_TargetSegments.j2 k x0 x1 ((x5 ++ (⟨#[47]⟩ : ByteArray)) ++ t227) x6 x7 false))) else (none))) else (none))) else (none)) else (none))) else (none)) else (lockkeeperlaw4_TargetSegments.l1 k x5 x6 (⟨#[]⟩ : ByteArray) 0)
def lockkeeperlaw4_TargetSegments.j2 : Nat → List Int → Int → ByteArray → List ByteArray → Int → Bool → Option (Bool)
 | 0, _, _, _, _, _, _ => none
 | k + 1, x0, x1, x5, x6, x7, x54 => if x54 = true then (if 0 ≤ (wrap64 ((x6.length : Int) - 1)) then (if (wrap64 ((x6.length : Int) - 1)) ≤ (x6.length : Int) then ((some (x6.take ((wrap64 ((x6.length : Int) - 1)) : Int).toNat : List ByteArray)).bind fun y232 => (if x7 = (wrap64 ((x0.length : Int) - 1)) then (if y232.length < 8796093022208 then (lockkeeperlaw4_TargetSegments.l0 k x0 x1 x5 (y232 ++ [(⟨#[]⟩ : ByteArray)]) (wrap64 (x7 + 1))) else (none)) else (lockkeeperlaw4_TargetSegments.l0 k x0 x1 x5 y232 (wrap64 (x7 + 1))))) else (none)) else (none)) else (if x7 = (wrap64 ((x0.length : Int) - 1)) then (if x6.length < 8796093022208 then (lockkeeperlaw4_TargetSegments.l0 k x0 x1 x5 (x6 ++ [(⟨#[]⟩ : ByteArray)]) (wrap64 (x7 + 1))) else (none)) else (lockkeeperlaw4_TargetSegments.l0 k x0 x1 x5 x6 (wrap64 (x7 + 1))))
def lockkeeperlaw4_TargetSegments.l1 : Nat → ByteArray → List ByteArray → ByteArray → Int → Option (Bool)
 | 0, _, _, _, _ => none
 | k + 1, x5, x6, x10, x11 => if x11 < (x6.length : Int) then (if x10.size + 1 ≤ 9223372036854775807 then (if 0 ≤ x11 then (if (x10 ++ (⟨#[47]⟩ : ByteArray)).size + (rdOf ByteArray.empty x6 x11).size ≤ 9223372036854775807 then (lockkeeperlaw4_TargetSegments.l1 k x5 x6 ((x10 ++ (⟨#[47]⟩ : ByteArray)) ++ (rdOf ByteArray.empty x6 x11)) (wrap64 (x11 + 1))) else (none)) else (none)) else (none)) else ((target_Clean.f k x5).bind fun t242 => (if t242.toList = x10.toList then ((lockkeeperlaw4_awake.f k).bind fun t243 => (some t243)) else (some false)))
end
def lockkeeperlaw4_TargetSegments.f (k : Nat) (l0 : List Int) (a1 : Int) : Option (Bool) := if (l0.length : Int) < 1 then (lockkeeperlaw4_TargetSegments.j0 k l0 a1 true) else (lockkeeperlaw4_TargetSegments.j0 k l0 a1 (decide ((l0.length : Int) > 30)))
theorem lockkeeperlaw4_TargetSegments.mono_l : ∀ k, (∀ y0 y1 y2, LeO (lockkeeperlaw4_TargetSegments.j0 k y0 y1 y2) (lockkeeperlaw4_TargetSegments.j0 (k + 1) y0 y1 y2)) ∧ (∀ y0 y1 y2 y3 y4, LeO (lockkeeperlaw4_TargetSegments.l0 k y0 y1 y2 y3 y4) (lockkeeperlaw4_TargetSegments.l0 (k + 1) y0 y1 y2 y3 y4)) ∧ (∀ y0 y1 y2 y3 y4 y5, LeO (lockkeeperlaw4_TargetSegments.j2 k y0 y1 y2 y3 y4 y5) (lockkeeperlaw4_TargetSegments.j2 (k + 1) y0 y1 y2 y3 y4 y5)) ∧ (∀ y0 y1 y2 y3, LeO (lockkeeperlaw4_TargetSegments.l1 k y0 y1 y2 y3) (lockkeeperlaw4_TargetSegments.l1 (k + 1) y0 y1 y2 y3))
 | 0 => ⟨fun _ _ _ r h => by simp [lockkeeperlaw4_TargetSegments.j0] at h, fun _ _ _ _ _ r h => by simp [lockkeeperlaw4_TargetSegments.l0] at h, fun _ _ _ _ _ _ r h => by simp [lockkeeperlaw4_TargetSegments.j2] at h, fun _ _ _ _ r h => by simp [lockkeeperlaw4_TargetSegments.l1] at h⟩
 | k + 1 => by
  obtain ⟨ih0, ih1, ih2, ih3⟩ := lockkeeperlaw4_TargetSegments.mono_l k
  refine ⟨?_, ?_, ?_, ?_⟩
  ·intro y0 y1 y2
   unfold lockkeeperlaw4_TargetSegments.j0
   repeat' first
   | (with_reducible exact ih0 _ _ _)
   | (with_reducible exact ih1 _ _ _ _ _)
   | (with_reducible exact ih2 _ _ _ _ _ _)
   | (with_reducible exact ih3 _ _ _ _)
   | (with_reducible exact lockkeeperlaw4_awake.mono _)
   | (with_reducible exact target_Clean.mono _ _)
   | (with_reducible exact LeO.refl _)
   | (with_reducible exact LeO.none _)
   | (with_reducible refine LeO.ite ?_ ?_)
   | (with_reducible refine LeO.bind ?_ (fun _ => ?_))
   | exact ih0 _ _ _
   | exact ih1 _ _ _ _ _
   | exact ih2 _ _ _ _ _ _
   | exact ih3 _ _ _ _
   | exact lockkeeperlaw4_awake.mono _
   | exact target_Clean.mono _ _
   | exact LeO.none _
   | refine LeO.ite ?_ ?_
   | refine LeO.bind ?_ (fun _ => ?_)
  ·intro y0 y1 y2 y3 y4
   unfold lockkeeperlaw4_TargetSegments.l0
   repeat' first
   | (with_reducible exact ih0 _ _ _)
   | (with_reducible exact ih1 _ _ _ _ _)
   | (with_reducible exact ih2 _ _ _ _ _ _)
   | (with_reducible exact ih3 _ _ _ _)
   | (with_reducible exact lockkeeperlaw4_awake.mono _)
   | (with_reducible exact target_Clean.mono _ _)
   | (with_reducible exact LeO.refl _)
   | (with_reducible exact LeO.none _)
   | (with_reducible refine LeO.ite ?_ ?_)
   | (with_reducible refine LeO.bind ?_ (fun _ => ?_))
   | exact ih0 _ _ _
   | exact ih1 _ _ _ _ _
   | exact ih2 _ _ _ _ _ _
   | exact ih3 _ _ _ _
   | exact lockkeeperlaw4_awake.mono _
   | exact target_Clean.mono _ _
   | exact LeO.none _
   | refine LeO.ite ?_ ?_
   | refine LeO.bind ?_ (fun _ => ?_)
  ·intro y0 y1 y2 y3 y4 y5
   unfold lockkeeperlaw4_TargetSegments.j2
   repeat' first
   | (with_reducible exact ih0 _ _ _)
   | (with_reducible exact ih1 _ _ _ _ _)
   | (with_reducible exact ih2 _ _ _ _ _ _)
   | (with_reducible exact ih3 _ _ _ _)
   | (with_reducible exact lockkeeperlaw4_awake.mono _)
   | (with_reducible exact target_Clean.mono _ _)
   | (with_reducible exact LeO.refl _)
   | (with_reducible exact LeO.none _)
   | (with_reducible refine LeO.ite ?_ ?_)
   | (with_reducible refine LeO.bind ?_ (fun _ => ?_))
   | exact ih0 _ _ _
   | exact ih1 _ _ _ _ _
   | exact ih2 _ _ _ _ _ _
   | exact ih3 _ _ _ _
   | exact lockkeeperlaw4_awake.mono _
   | exact target_Clean.mono _ _
   | exact LeO.none _
   | refine LeO.ite ?_ ?_
   | refine LeO.bind ?_ (fun _ => ?_)
  ·intro y0 y1 y2 y3
   unfold lockkeeperlaw4_TargetSegments.l1
   repeat' first
   | (with_reducible exact ih0 _ _ _)
   | (with_reducible exact ih1 _ _ _ _ _)
   | (with_reducible exact ih2 _ _ _ _ _ _)
   | (with_reducible exact ih3 _ _ _ _)
   | (with_reducible exact lockkeeperlaw4_awake.mono _)
   | (with_reducible exact target_Clean.mono _ _)
   | (with_reducible exact LeO.refl _)
   | (with_reducible exact LeO.none _)
   | (with_reducible refine LeO.ite ?_ ?_)
   | (with_reducible refine LeO.bind ?_ (fun _ => ?_))
   | exact ih0 _ _ _
   | exact ih1 _ _ _ _ _
   | exact ih2 _ _ _ _ _ _
   | exact ih3 _ _ _ _
   | exact lockkeeperlaw4_awake.mono _
   | exact target_Clean.mono _ _
   | exact LeO.none _
   | refine LeO.ite ?_ ?_
   | refine LeO.bind ?_ (fun _ => ?_)
theorem lockkeeperlaw4_TargetSegments.mono : ∀ a0 a1 k, LeO (lockkeeperlaw4_TargetSegments.f k a0 a1) (lockkeeperlaw4_TargetSegments.f (k + 1) a0 a1) := by
 intro a0 a1 k
 obtain ⟨ih0, ih1, ih2, ih3⟩ := lockkeeperlaw4_TargetSegments.mono_l k
 unfold lockkeeperlaw4_TargetSegments.f
 repeat' first
   | (with_reducible exact ih0 _ _ _)
   | (with_reducible exact ih1 _ _ _ _ _)
   | (with_reducible exact ih2 _ _ _ _ _ _)
   | (with_reducible exact ih3 _ _ _ _)
   | (with_reducible exact lockkeeperlaw4_awake.mono _)
   | (with_reducible exact target_Clean.mono _ _)
   | (with_reducible exact LeO.refl _)
   | (with_reducible exact LeO.none _)
   | (with_reducible refine LeO.ite ?_ ?_)
   | (with_reducible refine LeO.bind ?_ (fun _ => ?_))
   | exact ih0 _ _ _
   | exact ih1 _ _ _ _ _
   | exact ih2 _ _ _ _ _ _
   | exact ih3 _ _ _ _
   | exact lockkeeperlaw4_awake.mono _
   | exact target_Clean.mono _ _
   | exact LeO.none _
   | refine LeO.ite ?_ ?_
   | refine LeO.bind ?_ (fun _ => ?_)
set_option maxHeartbeats 8000000 in
set_option maxRecDepth 100000 in
theorem lockkeeperlaw4_TargetSegments.calls (k : Nat) (A0 : Option Addr) (c0 : Nat) (l0 : List Int) (a1 : Int) (r : Bool) (w : World) (hr0 : Kd.C (Kd.int .i64) w A0 l0.length l0) (hc0 : l0.length ≤ c0) (hM_ : Aside0 (LaidW w)) (hr_ : r = true) (h : lockkeeperlaw4_TargetSegments.f k l0 a1 = some r) :
  Calls Tryd.prog 13 #[.slice A0 l0.length c0, .int .u64 a1] w fun e w' => e = .returned (.bool r) ∧ Below w.heap.size w w' := by
 have HR0 := Aside0.mk hr0
 have HC0 := Aside0.mk hc0
 clear hr0 hc0
 have HB := Aside0.mk (Below.refl w.heap.size w)
 have H : (if (l0.length : Int) < 1 then (lockkeeperlaw4_TargetSegments.j0 k l0 a1 true) else (lockkeeperlaw4_TargetSegments.j0 k l0 a1 (decide ((l0.length : Int) > 30)))) = some r := h
 clear h
 have HC3 := Aside0.mk H
 clear H
 go_enter Tryd.func13, Tryd.ntmps13
 go_upto_region 1 with (fail)
 go_cut [19] (fun v19 wc => ∃ (kq : Nat) (x19_2 : Bool), v19 = .bool x19_2 ∧ Aside0 (lockkeeperlaw4_TargetSegments.j0 kq l0 a1 x19_2 = some r) ∧ Aside0 (kq ≤ k) ∧ Aside0 (Below w.heap.size w wc))
 case first =>
  have H := HC3.out
  clear HC3
  by_cases c4 : (l0.length : Int) < 1
  ·rw [if_pos c4] at H
   have c4b0 : decide ((l0.length : Int) < 1) = true := decide_eq_true c4
   have c4b1 : decide (l0.length < 1) = true := decide_eq_true (by omega)
   clear c4
   (first | rw [c4b0] | (simp only [i64_w, i32_w]; rw [c4b0]) | skip)
   have H' := Aside0.mk H
   clear H
   go_wp2
   go_meet
   case rel => exact ⟨_, (true), (by first | rfl | (simp; done) | (simp [*]; done)), H', ⟨by first | omega | exact Nat.le_refl _⟩, ⟨by repeat (first | (with_reducible first | exact HB.out | apply below_alloc | apply pw_below_drewN | apply below_drew1) | exact HB.out)⟩⟩
  ·rw [if_neg c4] at H
   have c4b0 : decide ((l0.length : Int) < 1) = false := decide_eq_false c4
   have c4b1 : decide (l0.length < 1) = false := decide_eq_false (by omega)
   clear c4
   (first | rw [c4b0] | (simp only [i64_w, i32_w]; rw [c4b0]) | skip)
   have H' := Aside0.mk H
   clear H
   go_wp2
   go_meet
   case rel => exact ⟨_, (decide ((l0.length : Int) > 30)), (by first | rfl | (simp; done) | (simp [*]; done)), H', ⟨by first | omega | exact Nat.le_refl _⟩, ⟨by repeat (first | (with_reducible first | exact HB.out | apply below_alloc | apply pw_below_drewN | apply below_drew1) | exact HB.out)⟩⟩
 case rest =>
  clear HC3
  try clear c1
  try clear p2
  try clear c4
  try clear c4b0
  try clear c4b1
  obtain ⟨kq, x19_2, rfl, HA, HJ2, HB⟩ := hcut
  cases kq with
  | zero => exact absurd HA.out (by simp [lockkeeperlaw4_TargetSegments.j0])
  | succ kj2 =>
   have H := HA.out
   clear HA
   simp only [lockkeeperlaw4_TargetSegments.j0] at H
   by_cases c5 : x19_2 = true
   ·subst c5
    have H1 : ((lockkeeperlaw4_awake.f kj2).bind fun t222 => (some t222)) = some r := by rw [if_pos rfl] at H; exact H
    clear H
    have H := H1
    clear H1
    replace H := Option.bind_eq_some_iff.mp H
    obtain ⟨t222, A60, H⟩ := H
    replace H : (some t222) = some r := H
    have A6 := Aside0.mk A60
    clear A60
    clear hr_
    obtain rfl := Option.some.inj H
    go_wp2_with (first | ((with_reducible refine gate_callee (f := 33) rfl ?_); refine goesL_ (some 20) rfl rfl Tryd.func33 (by kernel_rfl) rfl #[] rfl (by (try simp only [List.map_toArray, List.map_cons, List.map_nil]); first | done | rfl | (simp only [List.length_drop, List.length_take]; rfl)) ?_; (with_reducible refine (lockkeeperlaw4_awake.calls kj2  t222 _ ?side1 A6.out).mono ?_); (case side1 => exact ⟨by repeat (first | (with_reducible exact hM_.out) | (with_reducible exact LaidW.below hM_.out HB.out) | (with_reducible refine LaidW.alloc ?_ _) | (with_reducible refine LaidW.drewN ?_ _) | (with_reducible refine LaidW.drew ?_) | exact LaidW.below hM_.out (by repeat (first | (with_reducible first | exact HB.out | apply below_alloc | apply pw_below_drewN | apply below_drew1) | exact HB.out)))⟩); rintro e w7 ⟨rfl, hb⟩; refine ⟨_, rfl, ?_⟩; have n0_ := Aside0.mk (below_step (by repeat (first | (with_reducible first | exact HB.out | apply below_alloc | apply pw_below_drewN | apply below_drew1) | exact HB.out)) hb); clear HB; have HB := n0_; clear n0_; (try clear hb); (try clear hb2); (try clear hk); (try clear hi)))
    go_ret
    exact ⟨by first | rfl | (simp [errW_none, errW_some] <;> rfl) | (simp [*, errW_none, errW_some] <;> rfl), by repeat (first | (with_reducible first | exact HB.out | apply below_alloc | apply pw_below_drewN | apply below_drew1) | exact HB.out)⟩
   ·replace c5 := Bool.eq_false_iff.mpr c5
    subst c5
    have H1 : (lockkeeperlaw4_TargetSegments.l0 kj2 l0 a1 (⟨#[]⟩ : ByteArray) ([] : List ByteArray) 0) = some r := by rw [if_neg (show ¬ (false = true) by decide)] at H; exact H
    clear H
    have H := H1
    clear H1
    have H' := Aside0.mk H
    clear H
    go_wp2
    go_loopg [5, 6, 7] kj2 (fun kq v5 v6 v7 w' => ∃ (x5_2 : ByteArray) (x6_2 : List ByteArray) (x7_2 : Int), v5 = .string x5_2 ∧ v7 = .int .i64 x7_2 ∧ Aside0 (lockkeeperlaw4_TargetSegments.l0 kq l0 a1 x5_2 x6_2 x7_2 = some r) ∧ Aside0 (kq ≤ kj2) ∧ Aside0 (Kd.R Kd.string 9 w' w.heap.size (fun _ => True) v6 x6_2) ∧ Aside0 (Below w.heap.size w w'))
    case atStart => exact ⟨((⟨#[]⟩ : ByteArray)), (([] : List ByteArray)), (0), (by first | rfl | (simp; done) | (simp [*]; done)), (by first | rfl | (simp; done) | (simp [*]; done)), H', ⟨Nat.le_refl _⟩, ⟨by first | exact Kd.R_nil _ _ _ _ _ | exact Kd.N_nil _ _ _ _ _ | exact Kd.V_nil _ _ _ _ _ | exact Kd.Q_nil _ _ _ _ _ | exact Kd.S_nil _ _ _ _ _⟩, ⟨by repeat (first | (with_reducible first | exact HB.out | apply below_alloc | apply pw_below_drewN | apply below_drew1) | exact HB.out)⟩⟩
    case round =>
     clear H'
     try clear c1
     try clear p2
     try clear c3
     try clear c4
     try clear c4b0
     try clear c4b1
     try clear c5
     try clear p2
     obtain ⟨x5_2, x6_2, x7_2, rfl, rfl, HA, HK2, HO_6, HB⟩ := hrel
     cases gk with
     | zero => exact absurd HA.out (by simp [lockkeeperlaw4_TargetSegments.l0])
     | succ k2 =>
      have H := HA.out
      clear HA
      simp only [lockkeeperlaw4_TargetSegments.l0] at H
      by_cases c8 : x7_2 < (l0.length : Int)
      ·rw [if_pos c8] at H
       have c8b0 : decide (x7_2 < (l0.length : Int)) = true := decide_eq_true c8
       clear c8
       by_cases c9 : 0 ≤ x7_2
       ·rw [if_pos c9] at H
        have c9b0 : decide (0 ≤ x7_2) = true := decide_eq_true c9
        clear c9
        replace H := Option.bind_eq_some_iff.mp H
        obtain ⟨t224, A100, H⟩ := H
        replace H : (if 0 ≤ t224 then (if t224 < 8 then ((lockkeeperlaw0_Low.f (rd l0 x7_2) 8).bind fun t226 => (if x5_2.size + 1 ≤ 9223372036854775807 then ((lockkeeperlaw0_Flip.f (rdOf ByteArray.empty ([(⟨#[97]⟩ : ByteArray), (⟨#[]⟩ : ByteArray), (⟨#[98, 99]⟩ : ByteArray), (⟨#[46, 46, 46]⟩ : ByteArray), (⟨#[46]⟩ : ByteArray), (⟨#[37, 50, 101]⟩ : ByteArray), (⟨#[46, 46]⟩ : ByteArray), (⟨#[37, 50, 101, 46]⟩ : ByteArray)] : List ByteArray) t224) a1).bind fun t227 => (if (x5_2 ++ (⟨#[47]⟩ : ByteArray)).size + t227.size ≤ 9223372036854775807 then (if t226 < 4 then ((lockkeeperlaw0_Flip.f (rdOf ByteArray.empty ([(⟨#[97]⟩ : ByteArray), (⟨#[]⟩ : ByteArray), (⟨#[98, 99]⟩ : ByteArray), (⟨#[46, 46, 46]⟩ : ByteArray), (⟨#[46]⟩ : ByteArray), (⟨#[37, 50, 101]⟩ : ByteArray), (⟨#[46, 46]⟩ : ByteArray), (⟨#[37, 50, 101, 46]⟩ : ByteArray)] : List ByteArray) t224) a1).bind fun t228 => (if x6_2.length < 8796093022208 then (lockkeeperlaw4_TargetSegments.l0 k2 l0 a1 ((x5_2 ++ (⟨#[47]⟩ : ByteArray)) ++ t227) (x6_2 ++ [t228]) (wrap64 (x7_2 + 1))) else (none))) else (if t226 > 5 then (lockkeeperlaw4_TargetSegments.j2 k2 l0 a1 ((x5_2 ++ (⟨#[47]⟩ : ByteArray)) ++ t227) x6_2 x7_2 (decide ((x6_2.length : Int) > 0))) else (lockkeeperlaw4_TargetSegments.j2 k2 l0 a1 ((x5_2 ++ (⟨#[47]⟩ : ByteArray)) ++ t227) x6_2 x7_2 false))) else (none))) else (none))) else (none)) else (none)) = some r := H
        have A10 := Aside0.mk A100
        clear A100
        by_cases c11 : 0 ≤ t224
        ·rw [if_pos c11] at H
         have c11b0 : decide (0 ≤ t224) = true := decide_eq_true c11
         clear c11
         by_cases c12 : t224 < 8
         ·rw [if_pos c12] at H
          have c12b0 : decide (t224 < 8) = true := decide_eq_true c12
          clear c12
          replace H := Option.bind_eq_some_iff.mp H
          obtain ⟨t226, A140, H⟩ := H
          replace H : (if x5_2.size + 1 ≤ 9223372036854775807 then ((lockkeeperlaw0_Flip.f (rdOf ByteArray.empty ([(⟨#[97]⟩ : ByteArray), (⟨#[]⟩ : ByteArray), (⟨#[98, 99]⟩ : ByteArray), (⟨#[46, 46, 46]⟩ : ByteArray), (⟨#[46]⟩ : ByteArray), (⟨#[37, 50, 101]⟩ : ByteArray), (⟨#[46, 46]⟩ : ByteArray), (⟨#[37, 50, 101, 46]⟩ : ByteArray)] : List ByteArray) t224) a1).bind fun t227 => (if (x5_2 ++ (⟨#[47]⟩ : ByteArray)).size + t227.size ≤ 9223372036854775807 then (if t226 < 4 then ((lockkeeperlaw0_Flip.f (rdOf ByteArray.empty ([(⟨#[97]⟩ : ByteArray), (⟨#[]⟩ : ByteArray), (⟨#[98, 99]⟩ : ByteArray), (⟨#[46, 46, 46]⟩ : ByteArray), (⟨#[46]⟩ : ByteArray), (⟨#[37, 50, 101]⟩ : ByteArray), (⟨#[46, 46]⟩ : ByteArray), (⟨#[37, 50, 101, 46]⟩ : ByteArray)] : List ByteArray) t224) a1).bind fun t228 => (if x6_2.length < 8796093022208 then (lockkeeperlaw4_TargetSegments.l0 k2 l0 a1 ((x5_2 ++ (⟨#[47]⟩ : ByteArray)) ++ t227) (x6_2 ++ [t228]) (wrap64 (x7_2 + 1))) else (none))) else (if t226 > 5 then (lockkeeperlaw4_TargetSegments.j2 k2 l0 a1 ((x5_2 ++ (⟨#[47]⟩ : ByteArray)) ++ t227) x6_2 x7_2 (decide ((x6_2.length : Int) > 0))) else (lockkeeperlaw4_TargetSegments.j2 k2 l0 a1 ((x5_2 ++ (⟨#[47]⟩ : ByteArray)) ++ t227) x6_2 x7_2 false))) else (none))) else (none)) = some r := H
          have A14 := Aside0.mk A140
          clear A140
          by_cases c15 : x5_2.size + 1 ≤ 9223372036854775807
          ·rw [if_pos c15] at H
           have c15b0 := eq_true c15
           have c15b1 : decide (x5_2.size + 1 ≤ 9223372036854775807) = true := decide_eq_true c15
           try have c15b2 : (9223372036854775807 < x5_2.size + 1) = False := eq_false (Nat.not_lt.2 c15)
           replace H := Option.bind_eq_some_iff.mp H
           obtain ⟨t227, A160, H⟩ := H
           replace H : (if (x5_2 ++ (⟨#[47]⟩ : ByteArray)).size + t227.size ≤ 9223372036854775807 then (if t226 < 4 then ((lockkeeperlaw0_Flip.f (rdOf ByteArray.empty ([(⟨#[97]⟩ : ByteArray), (⟨#[]⟩ : ByteArray), (⟨#[98, 99]⟩ : ByteArray), (⟨#[46, 46, 46]⟩ : ByteArray), (⟨#[46]⟩ : ByteArray), (⟨#[37, 50, 101]⟩ : ByteArray), (⟨#[46, 46]⟩ : ByteArray), (⟨#[37, 50, 101, 46]⟩ : ByteArray)] : List ByteArray) t224) a1).bind fun t228 => (if x6_2.length < 8796093022208 then (lockkeeperlaw4_TargetSegments.l0 k2 l0 a1 ((x5_2 ++ (⟨#[47]⟩ : ByteArray)) ++ t227) (x6_2 ++ [t228]) (wrap64 (x7_2 + 1))) else (none))) else (if t226 > 5 then (lockkeeperlaw4_TargetSegments.j2 k2 l0 a1 ((x5_2 ++ (⟨#[47]⟩ : ByteArray)) ++ t227) x6_2 x7_2 (decide ((x6_2.length : Int) > 0))) else (lockkeeperlaw4_TargetSegments.j2 k2 l0 a1 ((x5_2 ++ (⟨#[47]⟩ : ByteArray)) ++ t227) x6_2 x7_2 false))) else (none)) = some r := H
           have A16 := Aside0.mk A160
           clear A160
           by_cases c17 : (x5_2 ++ (⟨#[47]⟩ : ByteArray)).size + t227.size ≤ 9223372036854775807
           ·rw [if_pos c17] at H
            try (have c17b5 := c17; simp only [ByteArray.size_append, Int.natCast_add] at c17b5)
            have c17b0 := eq_true c17
            have c17b1 : decide ((x5_2 ++ (⟨#[47]⟩ : ByteArray)).size + t227.size ≤ 9223372036854775807) = true := decide_eq_true c17
            try have c17b2 : (9223372036854775807 < (x5_2 ++ (⟨#[47]⟩ : ByteArray)).size + t227.size) = False := eq_false (Nat.not_lt.2 c17)
            try have c17b3 : (9223372036854775807 < x5_2.size + 1 + t227.size) = False := eq_false (Nat.not_lt.2 (by have z_ := c17; simp only [ByteArray.size_append] at z_; first | exact z_ | simpa using z_))
            by_cases c18 : t226 < 4
            ·rw [if_pos c18] at H
             have c18b0 : decide (t226 < 4) = true := decide_eq_true c18
             clear c18
             replace H := Option.bind_eq_some_iff.mp H
             obtain ⟨t228, A190, H⟩ := H
             replace H : (if x6_2.length < 8796093022208 then (lockkeeperlaw4_TargetSegments.l0 k2 l0 a1 ((x5_2 ++ (⟨#[47]⟩ : ByteArray)) ++ t227) (x6_2 ++ [t228]) (wrap64 (x7_2 + 1))) else (none)) = some r := H
             have A19 := Aside0.mk A190
             clear A190
             by_cases c20 : x6_2.length < 8796093022208
             ·rw [if_pos c20] at H
              have LMc20 := Aside0.mk c20
              clear c20
              obtain ⟨y229, hy229⟩ : ∃ y_ : List ByteArray, y_ = (x6_2 ++ [t228]) := ⟨_, rfl⟩
              replace H : (lockkeeperlaw4_TargetSegments.l0 k2 l0 a1 ((x5_2 ++ (⟨#[47]⟩ : ByteArray)) ++ t227) y229 (wrap64 (x7_2 + 1))) = some r := by first | (rw [hy229]; with_reducible exact H) | (have H2_ := (Option.bind_some _ _).symm.trans H; rw [hy229]; with_reducible exact H2_) | (have H2_ := (Option.bind_some _ _).symm.trans H; with_reducible exact H2_) | with_reducible exact H | (rw [hy229]; exact H) | exact H
              have Ny229 := Aside0.mk hy229
              clear hy229
              have H' := Aside0.mk H
              clear H
              have p223 : 0 ≤ (x7_2 : Int) := of_decide_eq_true (by first | (with_reducible assumption) | assumption)
              have q223 : x7_2 < (l0.length : Int) := of_decide_eq_true (by first | (with_reducible assumption) | assumption)
              obtain ⟨ad223, e223, hx223_0⟩ := Kd.at_int HR0.out x7_2 p223 q223
              cases e223
              replace hx223_0 := (HB.out.cell (World.block_lt_of_cell? w _ hx223_0)).trans hx223_0
              replace p223 := eq_true p223
              replace q223 := eq_true q223
              go_wp2_with (first | ((with_reducible refine gate_callee (f := 30) rfl ?_); refine goesL_ (some 32) rfl rfl Tryd.func30 (by kernel_rfl) rfl #[.int .i64 (rd l0 x7_2), .int .i64 8] rfl (by (try simp only [List.map_toArray, List.map_cons, List.map_nil]); first | done | rfl | (simp only [List.length_drop, List.length_take]; rfl)) ?_; (with_reducible refine (lockkeeperlaw0_Low.calls (rd l0 x7_2) 8 t224 _ A10.out).mono ?_); rintro e w' ⟨rfl, ⟨nd, rfl⟩⟩; refine ⟨_, rfl, ?_⟩; have hx13 := XA.arr_at (P := Tryd.prog) (t := 53) (e := 9) 8 ([(⟨#[97]⟩ : ByteArray), (⟨#[]⟩ : ByteArray), (⟨#[98, 99]⟩ : ByteArray), (⟨#[46, 46, 46]⟩ : ByteArray), (⟨#[46]⟩ : ByteArray), (⟨#[37, 50, 101]⟩ : ByteArray), (⟨#[46, 46]⟩ : ByteArray), (⟨#[37, 50, 101, 46]⟩ : ByteArray)] : List ByteArray) Tryd.underlying53 Tryd.underlying9 (by kernel_rfl) rfl #[Value.string (⟨#[97]⟩ : ByteArray), Value.string (⟨#[]⟩ : ByteArray), Value.string (⟨#[98, 99]⟩ : ByteArray), Value.string (⟨#[46, 46, 46]⟩ : ByteArray), Value.string (⟨#[46]⟩ : ByteArray), Value.string (⟨#[37, 50, 101]⟩ : ByteArray), Value.string (⟨#[46, 46]⟩ : ByteArray), Value.string (⟨#[37, 50, 101, 46]⟩ : ByteArray)] rfl (t224 : Int) (of_decide_eq_true (by first | (with_reducible assumption) | assumption)) (of_decide_eq_true (by first | (with_reducible assumption) | assumption)); have p225 : 0 ≤ (x7_2 : Int) := of_decide_eq_true (by first | (with_reducible assumption) | assumption); have q225 : x7_2 < (l0.length : Int) := of_decide_eq_true (by first | (with_reducible assumption) | assumption); obtain ⟨ad225, e225, hx225_0⟩ := Kd.at_int HR0.out x7_2 p225 q225; obtain rfl : ad223 = ad225 := (by injection e225); replace hx225_0 := (HB.out.cell (World.block_lt_of_cell? w _ hx225_0)).trans hx225_0; replace p225 := eq_true p225; replace q225 := eq_true q225) | ((with_reducible refine gate_callee (f := 30) rfl ?_); refine goesL_ (some 38) rfl rfl Tryd.func30 (by kernel_rfl) rfl #[.int .i64 (rd l0 x7_2), .int .i64 8] rfl (by (try simp only [List.map_toArray, List.map_cons, List.map_nil]); first | done | rfl | (simp only [List.length_drop, List.length_take]; rfl)) ?_; (with_reducible refine (lockkeeperlaw0_Low.calls (rd l0 x7_2) 8 t226 _ A14.out).mono ?_); rintro e w' ⟨rfl, ⟨nd, rfl⟩⟩; refine ⟨_, rfl, ?_⟩) | ((with_reducible refine gate_callee (f := 29) rfl ?_); refine goesL_ (some 43) rfl rfl Tryd.func29 (by kernel_rfl) rfl #[.string (rdOf ByteArray.empty ([(⟨#[97]⟩ : ByteArray), (⟨#[]⟩ : ByteArray), (⟨#[98, 99]⟩ : ByteArray), (⟨#[46, 46, 46]⟩ : ByteArray), (⟨#[46]⟩ : ByteArray), (⟨#[37, 50, 101]⟩ : ByteArray), (⟨#[46, 46]⟩ : ByteArray), (⟨#[37, 50, 101, 46]⟩ : ByteArray)] : List ByteArray) t224), .int .u64 a1] rfl (by (try simp only [List.map_toArray, List.map_cons, List.map_nil]); first | done | rfl | (simp only [List.length_drop, List.length_take]; rfl)) ?_; (with_reducible refine (lockkeeperlaw0_Flip.calls (rdOf ByteArray.empty ([(⟨#[97]⟩ : ByteArray), (⟨#[]⟩ : ByteArray), (⟨#[98, 99]⟩ : ByteArray), (⟨#[46, 46, 46]⟩ : ByteArray), (⟨#[46]⟩ : ByteArray), (⟨#[37, 50, 101]⟩ : ByteArray), (⟨#[46, 46]⟩ : ByteArray), (⟨#[37, 50, 101, 46]⟩ : ByteArray)] : List ByteArray) t224) a1 t227 _ A16.out).mono ?_); rintro e w21 ⟨rfl, hb⟩; refine ⟨_, rfl, ?_⟩; have n0_ := Aside0.mk (Kd.R_below (by (with_reducible repeat (first | apply Kd.R_alloc | apply Kd.R_drewN | apply Kd.R_drew)); exact HO_6.out) hb); have n1_ := Aside0.mk (below_step (by repeat (first | (with_reducible first | exact HB.out | apply below_alloc | apply pw_below_drewN | apply below_drew1) | exact HB.out)) hb); clear HO_6; clear HB; have HO_6 := n0_; have HB := n1_; clear n0_ n1_; (try clear hb); (try clear hb2); (try clear hk); (try clear hi)) | ((with_reducible refine gate_callee (f := 29) rfl ?_); refine goesL_ (some 51) rfl rfl Tryd.func29 (by kernel_rfl) rfl #[.string (rdOf ByteArray.empty ([(⟨#[97]⟩ : ByteArray), (⟨#[]⟩ : ByteArray), (⟨#[98, 99]⟩ : ByteArray), (⟨#[46, 46, 46]⟩ : ByteArray), (⟨#[46]⟩ : ByteArray), (⟨#[37, 50, 101]⟩ : ByteArray), (⟨#[46, 46]⟩ : ByteArray), (⟨#[37, 50, 101, 46]⟩ : ByteArray)] : List ByteArray) t224), .int .u64 a1] rfl (by (try simp only [List.map_toArray, List.map_cons, List.map_nil]); first | done | rfl | (simp only [List.length_drop, List.length_take]; rfl)) ?_; (with_reducible refine (lockkeeperlaw0_Flip.calls (rdOf ByteArray.empty ([(⟨#[97]⟩ : ByteArray), (⟨#[]⟩ : ByteArray), (⟨#[98, 99]⟩ : ByteArray), (⟨#[46, 46, 46]⟩ : ByteArray), (⟨#[46]⟩ : ByteArray), (⟨#[37, 50, 101]⟩ : ByteArray), (⟨#[46, 46]⟩ : ByteArray), (⟨#[37, 50, 101, 46]⟩ : ByteArray)] : List ByteArray) t224) a1 t228 _ A19.out).mono ?_); rintro e w22 ⟨rfl, hb⟩; refine ⟨_, rfl, ?_⟩; have n0_ := Aside0.mk (Kd.R_below (by (with_reducible repeat (first | apply Kd.R_alloc | apply Kd.R_drewN | apply Kd.R_drew)); exact HO_6.out) hb); have n1_ := Aside0.mk (below_step (by repeat (first | (with_reducible first | exact HB.out | apply below_alloc | apply pw_below_drewN | apply below_drew1) | exact HB.out)) hb); clear HO_6; clear HB; have HO_6 := n0_; have HB := n1_; clear n0_ n1_; (try clear hb); (try clear hb2); (try clear hk); (try clear hi)) | ((with_reducible refine gate_builtin (b := .append) (xs := #[.tmp 48, .tmp 52]) rfl ?_); (try (refine gate_guard (by rfl) ?_; dsimp only)); at_builtin; refine Kd.R_append Kd.string (w0 := w) w.heap.size rfl (.tmp 48) (.tmp 52) 52 9 (.string ⟨#[]⟩) 16 rfl Tryd.underlying52 info9 rfl (by decide) (by omega) u6 x6_2 t228 [.string t228] (fun _ => True) (fun _ => False) rfl rfl ?aP (fun _ hk => hk.elim) ?aF ?aO ?aB ?aS ?aL ?_; (case aP => exact rfl); (case aB => exact (by repeat (first | (with_reducible first | exact HB.out | apply below_alloc | apply pw_below_drewN | apply below_drew1) | exact HB.out))); (case aF => exact (fun _ _ => trivial)); (case aO => exact (by (with_reducible repeat (first | apply Kd.R_alloc | apply Kd.R_drewN | apply Kd.R_drew)); exact HO_6.out)); (case aS => exact (below_size (by repeat (first | (with_reducible first | exact HB.out | apply below_alloc | apply pw_below_drewN | apply below_drew1) | exact HB.out)))); (case aL => have := LMc20.out; omega); intro v230 w23 ho hb hg hat; rw [← Ny229.out] at ho; have n0_ := Aside0.mk (hb); have n1_ := Aside0.mk (ho); clear HB; clear HO_6; have HB := n0_; have HO231 := n1_; clear n0_ n1_; clear ho hb hg hat))
              go_roundg k2
              case measure => have := HJ2.out; have := HK2.out; omega
              case rel => exact ⟨((x5_2 ++ (⟨#[47]⟩ : ByteArray)) ++ t227), (y229), (wrap64 (x7_2 + 1)), (by first | rfl | (simp; done) | (simp [*]; done)), (by first | rfl | (simp; done) | (simp [*]; done)), H', ⟨by have := HJ2.out; have := HK2.out; omega⟩, ⟨by (with_reducible repeat (first | apply Kd.R_alloc | apply Kd.R_drewN | apply Kd.R_drew)); exact HO231.out⟩, ⟨by repeat (first | (with_reducible first | exact HB.out | apply below_alloc | apply pw_below_drewN | apply below_drew1) | exact HB.out)⟩⟩
             ·rw [if_neg c20] at H
              exact absurd H (by simp)
            ·rw [if_neg c18] at H
             have c18b0 : decide (t226 < 4) = false := decide_eq_false c18
             clear c18
             have HC24 := Aside0.mk H
             clear H
             have p223 : 0 ≤ (x7_2 : Int) := of_decide_eq_true (by first | (with_reducible assumption) | assumption)
             have q223 : x7_2 < (l0.length : Int) := of_decide_eq_true (by first | (with_reducible assumption) | assumption)
             obtain ⟨ad223, e223, hx223_0⟩ := Kd.at_int HR0.out x7_2 p223 q223
             cases e223
             replace hx223_0 := (HB.out.cell (World.block_lt_of_cell? w _ hx223_0)).trans hx223_0
             replace p223 := eq_true p223
             replace q223 := eq_true q223
             go_upto_region 13 with (first | ((with_reducible refine gate_callee (f := 30) rfl ?_); refine goesL_ (some 32) rfl rfl Tryd.func30 (by kernel_rfl) rfl #[.int .i64 (rd l0 x7_2), .int .i64 8] rfl (by (try simp only [List.map_toArray, List.map_cons, List.map_nil]); first | done | rfl | (simp only [List.length_drop, List.length_take]; rfl)) ?_; (with_reducible refine (lockkeeperlaw0_Low.calls (rd l0 x7_2) 8 t224 _ A10.out).mono ?_); rintro e w' ⟨rfl, ⟨nd, rfl⟩⟩; refine ⟨_, rfl, ?_⟩; have hx13 := XA.arr_at (P := Tryd.prog) (t := 53) (e := 9) 8 ([(⟨#[97]⟩ : ByteArray), (⟨#[]⟩ : ByteArray), (⟨#[98, 99]⟩ : ByteArray), (⟨#[46, 46, 46]⟩ : ByteArray), (⟨#[46]⟩ : ByteArray), (⟨#[37, 50, 101]⟩ : ByteArray), (⟨#[46, 46]⟩ : ByteArray), (⟨#[37, 50, 101, 46]⟩ : ByteArray)] : List ByteArray) Tryd.underlying53 Tryd.underlying9 (by kernel_rfl) rfl #[Value.string (⟨#[97]⟩ : ByteArray), Value.string (⟨#[]⟩ : ByteArray), Value.string (⟨#[98, 99]⟩ : ByteArray), Value.string (⟨#[46, 46, 46]⟩ : ByteArray), Value.string (⟨#[46]⟩ : ByteArray), Value.string (⟨#[37, 50, 101]⟩ : ByteArray), Value.string (⟨#[46, 46]⟩ : ByteArray), Value.string (⟨#[37, 50, 101, 46]⟩ : ByteArray)] rfl (t224 : Int) (of_decide_eq_true (by first | (with_reducible assumption) | assumption)) (of_decide_eq_true (by first | (with_reducible assumption) | assumption)); have p225 : 0 ≤ (x7_2 : Int) := of_decide_eq_true (by first | (with_reducible assumption) | assumption); have q225 : x7_2 < (l0.length : Int) := of_decide_eq_true (by first | (with_reducible assumption) | assumption); obtain ⟨ad225, e225, hx225_0⟩ := Kd.at_int HR0.out x7_2 p225 q225; obtain rfl : ad223 = ad225 := (by injection e225); replace hx225_0 := (HB.out.cell (World.block_lt_of_cell? w _ hx225_0)).trans hx225_0; replace p225 := eq_true p225; replace q225 := eq_true q225) | ((with_reducible refine gate_callee (f := 30) rfl ?_); refine goesL_ (some 38) rfl rfl Tryd.func30 (by kernel_rfl) rfl #[.int .i64 (rd l0 x7_2), .int .i64 8] rfl (by (try simp only [List.map_toArray, List.map_cons, List.map_nil]); first | done | rfl | (simp only [List.length_drop, List.length_take]; rfl)) ?_; (with_reducible refine (lockkeeperlaw0_Low.calls (rd l0 x7_2) 8 t226 _ A14.out).mono ?_); rintro e w' ⟨rfl, ⟨nd, rfl⟩⟩; refine ⟨_, rfl, ?_⟩) | ((with_reducible refine gate_callee (f := 29) rfl ?_); refine goesL_ (some 43) rfl rfl Tryd.func29 (by kernel_rfl) rfl #[.string (rdOf ByteArray.empty ([(⟨#[97]⟩ : ByteArray), (⟨#[]⟩ : ByteArray), (⟨#[98, 99]⟩ : ByteArray), (⟨#[46, 46, 46]⟩ : ByteArray), (⟨#[46]⟩ : ByteArray), (⟨#[37, 50, 101]⟩ : ByteArray), (⟨#[46, 46]⟩ : ByteArray), (⟨#[37, 50, 101, 46]⟩ : ByteArray)] : List ByteArray) t224), .int .u64 a1] rfl (by (try simp only [List.map_toArray, List.map_cons, List.map_nil]); first | done | rfl | (simp only [List.length_drop, List.length_take]; rfl)) ?_; (with_reducible refine (lockkeeperlaw0_Flip.calls (rdOf ByteArray.empty ([(⟨#[97]⟩ : ByteArray), (⟨#[]⟩ : ByteArray), (⟨#[98, 99]⟩ : ByteArray), (⟨#[46, 46, 46]⟩ : ByteArray), (⟨#[46]⟩ : ByteArray), (⟨#[37, 50, 101]⟩ : ByteArray), (⟨#[46, 46]⟩ : ByteArray), (⟨#[37, 50, 101, 46]⟩ : ByteArray)] : List ByteArray) t224) a1 t227 _ A16.out).mono ?_); rintro e w25 ⟨rfl, hb⟩; refine ⟨_, rfl, ?_⟩; have n0_ := Aside0.mk (Kd.R_below (by (with_reducible repeat (first | apply Kd.R_alloc | apply Kd.R_drewN | apply Kd.R_drew)); exact HO_6.out) hb); have n1_ := Aside0.mk (below_step (by repeat (first | (with_reducible first | exact HB.out | apply below_alloc | apply pw_below_drewN | apply below_drew1) | exact HB.out)) hb); clear HO_6; clear HB; have HO_6 := n0_; have HB := n1_; clear n0_ n1_; (try clear hb); (try clear hb2); (try clear hk); (try clear hi)))
             (try simp only [Act.put, List.setIfInBounds_toArray, List.set_cons_zero, List.set_cons_succ])
             go_cut [54] (fun v54 wc => ∃ (kq : Nat) (x54_23 : Bool), v54 = .bool x54_23 ∧ Aside0 (lockkeeperlaw4_TargetSegments.j2 kq l0 a1 ((x5_2 ++ (⟨#[47]⟩ : ByteArray)) ++ t227) x6_2 x7_2 x54_23 = some r) ∧ Aside0 (kq ≤ k2) ∧ Aside0 (Kd.R Kd.string 9 wc w.heap.size (fun _ => True) u6 x6_2) ∧ Aside0 (Below w.heap.size w wc))
             case first =>
              have H := HC24.out
              clear HC24
              by_cases c26 : t226 > 5
              ·rw [if_pos c26] at H
               have c26b0 : decide (5 < t226) = true := decide_eq_true c26
               clear c26
               (first | rw [c26b0] | (simp only [i64_w, i32_w]; rw [c26b0]) | skip)
               have H' := Aside0.mk H
               clear H
               obtain ⟨Ao27, co27, eo27⟩ := Kd.R_slice HO_6.out
               subst eo27
               go_wp2
               go_meet
               case rel => exact ⟨_, (decide ((x6_2.length : Int) > 0)), (by first | rfl | (simp; done) | (simp [*]; done)), H', ⟨by have := HJ2.out; have := HK2.out; first | omega | exact Nat.le_refl _⟩, ⟨by (with_reducible repeat (first | apply Kd.R_alloc | apply Kd.R_drewN | apply Kd.R_drew)); exact HO_6.out⟩, ⟨by repeat (first | (with_reducible first | exact HB.out | apply below_alloc | apply pw_below_drewN | apply below_drew1) | exact HB.out)⟩⟩
              ·rw [if_neg c26] at H
               have c26b0 : decide (5 < t226) = false := decide_eq_false c26
               clear c26
               (first | rw [c26b0] | (simp only [i64_w, i32_w]; rw [c26b0]) | skip)
               have H' := Aside0.mk H
               clear H
               go_wp2
               go_meet
               case rel => exact ⟨_, (false), (by first | rfl | (simp; done) | (simp [*]; done)), H', ⟨by have := HJ2.out; have := HK2.out; first | omega | exact Nat.le_refl _⟩, ⟨by (with_reducible repeat (first | apply Kd.R_alloc | apply Kd.R_drewN | apply Kd.R_drew)); exact HO_6.out⟩, ⟨by repeat (first | (with_reducible first | exact HB.out | apply below_alloc | apply pw_below_drewN | apply below_drew1) | exact HB.out)⟩⟩
             case rest =>
              clear HC24
              try clear c1
              try clear hx1
              try clear c2
              try clear p2
              try clear q2
              try clear hx2
              try clear c3
              try clear c4
              try clear c4b0
              try clear c4b1
              try clear c5
              try clear p6
              try clear c8
              try clear c8b0
              try clear c9
              try clear c9b0
              try clear c11
              try clear c11b0
              try clear c12
              try clear c12b0
              try clear c13
              try clear hx13
              try clear c15
              try clear c15b0
              try clear c15b1
              try clear c15b2
              try clear c17
              try clear c17b0
              try clear c17b1
              try clear c17b2
              try clear c18
              try clear c18b0
              try clear c20
              try clear p22
              try clear q22
              try clear hx22
              try clear c26
              try clear c26b0
              try clear hx223_0
              try clear hx225_0
              try clear p2
              try clear p223
              try clear p225
              try clear q223
              try clear q225
              obtain ⟨kq, x54_23, rfl, HA, HJ23, HO_6, HB⟩ := hcut
              cases kq with
              | zero => exact absurd HA.out (by simp [lockkeeperlaw4_TargetSegments.j2])
              | succ kj23 =>
               have H := HA.out
               clear HA
               simp only [lockkeeperlaw4_TargetSegments.j2] at H
               by_cases c28 : x54_23 = true
               ·subst c28
                have H1 : (if 0 ≤ (wrap64 ((x6_2.length : Int) - 1)) then (if (wrap64 ((x6_2.length : Int) - 1)) ≤ (x6_2.length : Int) then ((some (x6_2.take ((wrap64 ((x6_2.length : Int) - 1)) : Int).toNat : List ByteArray)).bind fun y232 => (if x7_2 = (wrap64 ((l0.length : Int) - 1)) then (if y232.length < 8796093022208 then (lockkeeperlaw4_TargetSegments.l0 kj23 l0 a1 ((x5_2 ++ (⟨#[47]⟩ : ByteArray)) ++ t227) (y232 ++ [(⟨#[]⟩ : ByteArray)]) (wrap64 (x7_2 + 1))) else (none)) else (lockkeeperlaw4_TargetSegments.l0 kj23 l0 a1 ((x5_2 ++ (⟨#[47]⟩ : ByteArray)) ++ t227) y232 (wrap64 (x7_2 + 1))))) else (none)) else (none)) = some r := by rw [if_pos rfl] at H; exact H
                clear H
                have H := H1
                clear H1
                obtain ⟨ji29, hji29⟩ : ∃ j_ : Int, (wrap64 ((x6_2.length : Int) - 1)) = j_ := ⟨_, rfl⟩
                replace H : (if 0 ≤ (ji29) then (if (ji29) ≤ (x6_2.length : Int) then ((some (x6_2.take ((ji29) : Int).toNat : List ByteArray)).bind fun y232 => (if x7_2 = (wrap64 ((l0.length : Int) - 1)) then (if y232.length < 8796093022208 then (lockkeeperlaw4_TargetSegments.l0 kj23 l0 a1 ((x5_2 ++ (⟨#[47]⟩ : ByteArray)) ++ t227) (y232 ++ [(⟨#[]⟩ : ByteArray)]) (wrap64 (x7_2 + 1))) else (none)) else (lockkeeperlaw4_TargetSegments.l0 kj23 l0 a1 ((x5_2 ++ (⟨#[47]⟩ : ByteArray)) ++ t227) y232 (wrap64 (x7_2 + 1))))) else (none)) else (none)) = some r := by first | (rw [hji29] at H; exact H) | (simp only [hji29] at H ⊢; exact H)
                have hji29w : (IntKind.i64.wrap ((x6_2.length : Int) - 1)) = ji29 := (i64_w _).trans hji29
                by_cases c30 : 0 ≤ (ji29)
                ·rw [if_pos c30] at H
                 have c30b0 := eq_true c30
                 have c30b1 : decide (0 ≤ (ji29)) = true := decide_eq_true c30
                 clear c30
                 by_cases c31 : (ji29) ≤ (x6_2.length : Int)
                 ·rw [if_pos c31] at H
                  have c31b0 := eq_true c31
                  have c31b1 : decide ((ji29) ≤ (x6_2.length : Int)) = true := decide_eq_true c31
                  clear c31
                  obtain ⟨y232, hy232⟩ : ∃ y_ : List ByteArray, y_ = (x6_2.take ((ji29) : Int).toNat) := ⟨_, rfl⟩
                  replace H : (if x7_2 = (wrap64 ((l0.length : Int) - 1)) then (if y232.length < 8796093022208 then (lockkeeperlaw4_TargetSegments.l0 kj23 l0 a1 ((x5_2 ++ (⟨#[47]⟩ : ByteArray)) ++ t227) (y232 ++ [(⟨#[]⟩ : ByteArray)]) (wrap64 (x7_2 + 1))) else (none)) else (lockkeeperlaw4_TargetSegments.l0 kj23 l0 a1 ((x5_2 ++ (⟨#[47]⟩ : ByteArray)) ++ t227) y232 (wrap64 (x7_2 + 1)))) = some r := by first | (rw [hy232]; with_reducible exact H) | (have H2_ := (Option.bind_some _ _).symm.trans H; rw [hy232]; with_reducible exact H2_) | (have H2_ := (Option.bind_some _ _).symm.trans H; with_reducible exact H2_) | with_reducible exact H | (rw [hy232]; exact H) | exact H
                  have Ny232 := Aside0.mk hy232
                  clear hy232
                  by_cases c32 : x7_2 = (wrap64 ((l0.length : Int) - 1))
                  ·rw [if_pos c32] at H
                   have c32b0 : (x7_2 == (wrap64 ((l0.length : Int) - 1))) = true := beq_iff_eq.mpr c32
                   have c32b1 : (x7_2 != (wrap64 ((l0.length : Int) - 1))) = false := bne_eq_false_iff_eq.mpr c32
                   clear c32
                   by_cases c33 : y232.length < 8796093022208
                   ·rw [if_pos c33] at H
                    have LMc33 := Aside0.mk c33
                    clear c33
                    obtain ⟨y235, hy235⟩ : ∃ y_ : List ByteArray, y_ = (y232 ++ [(⟨#[]⟩ : ByteArray)]) := ⟨_, rfl⟩
                    replace H : (lockkeeperlaw4_TargetSegments.l0 kj23 l0 a1 ((x5_2 ++ (⟨#[47]⟩ : ByteArray)) ++ t227) y235 (wrap64 (x7_2 + 1))) = some r := by first | (rw [hy235]; with_reducible exact H) | (have H2_ := (Option.bind_some _ _).symm.trans H; rw [hy235]; with_reducible exact H2_) | (have H2_ := (Option.bind_some _ _).symm.trans H; with_reducible exact H2_) | with_reducible exact H | (rw [hy235]; exact H) | exact H
                    have Ny235 := Aside0.mk hy235
                    clear hy235
                    have H' := Aside0.mk H
                    clear H
                    obtain ⟨Ao34, co34, eo34⟩ := Kd.R_slice HO_6.out
                    subst eo34
                    have q35 : ((ji29) : Int) ≤ ((x6_2.length : Int) : Int) := of_decide_eq_true (by first | (with_reducible assumption) | assumption)
                    obtain ⟨i035, hi035, _, hsz35, _⟩ := info_parts info9
                    have hcut35 := cut_to (P := Tryd.prog) 52 9 .i64 Tryd.underlying52 hi035 Ao34 x6_2.length co34 (ji29) (of_decide_eq_true (by first | (with_reducible assumption) | assumption)) q35 (Kd.R_reads' HO_6.out).2.1
                    have hr35 := Kd.R_take (m := ((ji29) : Int).toNat) HO_6.out (by omega)
                    have hy35 : y232.length = ((ji29) : Int).toNat := (by rw [Ny232.out, List.length_take]; omega)
                    rw [← Ny232.out] at hr35
                    rw [← hy35] at hr35 hcut35
                    clear hy35 hi035 hsz35 HO_6
                    have HO234 := Aside0.mk hr35
                    clear hr35
                    replace q35 := eq_true q35
                    go_wp2_with (first | ((with_reducible refine gate_builtin (b := .append) (xs := #[.tmp 72, .tmp 73]) rfl ?_); (try (refine gate_guard (by rfl) ?_; dsimp only)); at_builtin; refine Kd.R_append Kd.string (w0 := w) w.heap.size rfl (.tmp 72) (.tmp 73) 52 9 (.string ⟨#[]⟩) 16 rfl Tryd.underlying52 info9 rfl (by decide) (by omega) (.slice Ao34 y232.length co34) y232 (⟨#[]⟩ : ByteArray) [.string (⟨#[]⟩ : ByteArray)] (fun _ => True) (fun _ => False) rfl rfl ?aP (fun _ hk => hk.elim) ?aF ?aO ?aB ?aS ?aL ?_; (case aP => exact rfl); (case aB => exact (by repeat (first | (with_reducible first | exact HB.out | apply below_alloc | apply pw_below_drewN | apply below_drew1) | exact HB.out))); (case aF => exact (fun _ _ => trivial)); (case aO => exact (by (with_reducible repeat (first | apply Kd.R_alloc | apply Kd.R_drewN | apply Kd.R_drew)); exact HO234.out)); (case aS => exact (below_size (by repeat (first | (with_reducible first | exact HB.out | apply below_alloc | apply pw_below_drewN | apply below_drew1) | exact HB.out)))); (case aL => have := LMc33.out; omega); intro v236 w36 ho hb hg hat; rw [← Ny235.out] at ho; have n0_ := Aside0.mk (hb); have n1_ := Aside0.mk (ho); clear HB; clear HO234; have HB := n0_; have HO237 := n1_; clear n0_ n1_; clear ho hb hg hat))
                    go_roundg kj23
                    case measure => have := HJ2.out; have := HK2.out; have := HJ23.out; omega
                    case rel => exact ⟨(((x5_2 ++ (⟨#[47]⟩ : ByteArray)) ++ t227)), (y235), (wrap64 (x7_2 + 1)), (by first | rfl | (simp; done) | (simp [*]; done)), (by first | rfl | (simp; done) | (simp [*]; done)), H', ⟨by have := HJ2.out; have := HK2.out; have := HJ23.out; omega⟩, ⟨by (with_reducible repeat (first | apply Kd.R_alloc | apply Kd.R_drewN | apply Kd.R_drew)); exact HO237.out⟩, ⟨by repeat (first | (with_reducible first | exact HB.out | apply below_alloc | apply pw_below_drewN | apply below_drew1) | exact HB.out)⟩⟩
                   ·rw [if_neg c33] at H
                    exact absurd H (by simp)
                  ·rw [if_neg c32] at H
                   have c32b0 : (x7_2 == (wrap64 ((l0.length : Int) - 1))) = false := beq_eq_false_iff_ne.mpr c32
                   have c32b1 : (x7_2 != (wrap64 ((l0.length : Int) - 1))) = true := bne_iff_ne.mpr c32
                   have H' := Aside0.mk H
                   clear H
                   obtain ⟨Ao37, co37, eo37⟩ := Kd.R_slice HO_6.out
                   subst eo37
                   have q38 : ((ji29) : Int) ≤ ((x6_2.length : Int) : Int) := of_decide_eq_true (by first | (with_reducible assumption) | assumption)
                   obtain ⟨i038, hi038, _, hsz38, _⟩ := info_parts info9
                   have hcut38 := cut_to (P := Tryd.prog) 52 9 .i64 Tryd.underlying52 hi038 Ao37 x6_2.length co37 (ji29) (of_decide_eq_true (by first | (with_reducible assumption) | assumption)) q38 (Kd.R_reads' HO_6.out).2.1
                   have hr38 := Kd.R_take (m := ((ji29) : Int).toNat) HO_6.out (by omega)
                   have hy38 : y232.length = ((ji29) : Int).toNat := (by rw [Ny232.out, List.length_take]; omega)
                   rw [← Ny232.out] at hr38
                   rw [← hy38] at hr38 hcut38
                   clear hy38 hi038 hsz38 HO_6
                   have HO234 := Aside0.mk hr38
                   clear hr38
                   replace q38 := eq_true q38
                   go_wp2
                   go_roundg kj23
                   case measure => have := HJ2.out; have := HK2.out; have := HJ23.out; omega
                   case rel => exact ⟨(((x5_2 ++ (⟨#[47]⟩ : ByteArray)) ++ t227)), (y232), (wrap64 (x7_2 + 1)), (by first | rfl | (simp; done) | (simp [*]; done)), (by first | rfl | (simp; done) | (simp [*]; done)), H', ⟨by have := HJ2.out; have := HK2.out; have := HJ23.out; omega⟩, ⟨by (with_reducible repeat (first | apply Kd.R_alloc | apply Kd.R_drewN | apply Kd.R_drew)); exact HO234.out⟩, ⟨by repeat (first | (with_reducible first | exact HB.out | apply below_alloc | apply pw_below_drewN | apply below_drew1) | exact HB.out)⟩⟩
                 ·rw [if_neg c31] at H
                  exact absurd H (by simp)
                ·rw [if_neg c30] at H
                 exact absurd H (by simp)
               ·replace c28 := Bool.eq_false_iff.mpr c28
                subst c28
                have H1 : (if x7_2 = (wrap64 ((l0.length : Int) - 1)) then (if x6_2.length < 8796093022208 then (lockkeeperlaw4_TargetSegments.l0 kj23 l0 a1 ((x5_2 ++ (⟨#[47]⟩ : ByteArray)) ++ t227) (x6_2 ++ [(⟨#[]⟩ : ByteArray)]) (wrap64 (x7_2 + 1))) else (none)) else (lockkeeperlaw4_TargetSegments.l0 kj23 l0 a1 ((x5_2 ++ (⟨#[47]⟩ : ByteArray)) ++ t227) x6_2 (wrap64 (x7_2 + 1)))) = some r := by rw [if_neg (show ¬ (false = true) by decide)] at H; exact H
                clear H
                have H := H1
                clear H1
                by_cases c39 : x7_2 = (wrap64 ((l0.length : Int) - 1))
                ·rw [if_pos c39] at H
                 have c39b0 : (x7_2 == (wrap64 ((l0.length : Int) - 1))) = true := beq_iff_eq.mpr c39
                 have c39b1 : (x7_2 != (wrap64 ((l0.length : Int) - 1))) = false := bne_eq_false_iff_eq.mpr c39
                 clear c39
                 by_cases c40 : x6_2.length < 8796093022208
                 ·rw [if_pos c40] at H
                  have LMc40 := Aside0.mk c40
                  clear c40
                  obtain ⟨y238, hy238⟩ : ∃ y_ : List ByteArray, y_ = (x6_2 ++ [(⟨#[]⟩ : ByteArray)]) := ⟨_, rfl⟩
                  replace H : (lockkeeperlaw4_TargetSegments.l0 kj23 l0 a1 ((x5_2 ++ (⟨#[47]⟩ : ByteArray)) ++ t227) y238 (wrap64 (x7_2 + 1))) = some r := by first | (rw [hy238]; with_reducible exact H) | (have H2_ := (Option.bind_some _ _).symm.trans H; rw [hy238]; with_reducible exact H2_) | (have H2_ := (Option.bind_some _ _).symm.trans H; with_reducible exact H2_) | with_reducible exact H | (rw [hy238]; exact H) | exact H
                  have Ny238 := Aside0.mk hy238
                  clear hy238
                  have H' := Aside0.mk H
                  clear H
                  go_wp2_with (first | ((with_reducible refine gate_builtin (b := .append) (xs := #[.tmp 72, .tmp 73]) rfl ?_); (try (refine gate_guard (by rfl) ?_; dsimp only)); at_builtin; refine Kd.R_append Kd.string (w0 := w) w.heap.size rfl (.tmp 72) (.tmp 73) 52 9 (.string ⟨#[]⟩) 16 rfl Tryd.underlying52 info9 rfl (by decide) (by omega) u6 x6_2 (⟨#[]⟩ : ByteArray) [.string (⟨#[]⟩ : ByteArray)] (fun _ => True) (fun _ => False) rfl rfl ?aP (fun _ hk => hk.elim) ?aF ?aO ?aB ?aS ?aL ?_; (case aP => exact rfl); (case aB => exact (by repeat (first | (with_reducible first | exact HB.out | apply below_alloc | apply pw_below_drewN | apply below_drew1) | exact HB.out))); (case aF => exact (fun _ _ => trivial)); (case aO => exact (by (with_reducible repeat (first | apply Kd.R_alloc | apply Kd.R_drewN | apply Kd.R_drew)); exact HO_6.out)); (case aS => exact (below_size (by repeat (first | (with_reducible first | exact HB.out | apply below_alloc | apply pw_below_drewN | apply below_drew1) | exact HB.out)))); (case aL => have := LMc40.out; omega); intro v239 w41 ho hb hg hat; rw [← Ny238.out] at ho; have n0_ := Aside0.mk (hb); have n1_ := Aside0.mk (ho); clear HB; clear HO_6; have HB := n0_; have HO240 := n1_; clear n0_ n1_; clear ho hb hg hat))
                  go_roundg kj23
                  case measure => have := HJ2.out; have := HK2.out; have := HJ23.out; omega
                  case rel => exact ⟨(((x5_2 ++ (⟨#[47]⟩ : ByteArray)) ++ t227)), (y238), (wrap64 (x7_2 + 1)), (by first | rfl | (simp; done) | (simp [*]; done)), (by first | rfl | (simp; done) | (simp [*]; done)), H', ⟨by have := HJ2.out; have := HK2.out; have := HJ23.out; omega⟩, ⟨by (with_reducible repeat (first | apply Kd.R_alloc | apply Kd.R_drewN | apply Kd.R_drew)); exact HO240.out⟩, ⟨by repeat (first | (with_reducible first | exact HB.out | apply below_alloc | apply pw_below_drewN | apply below_drew1) | exact HB.out)⟩⟩
                 ·rw [if_neg c40] at H
                  exact absurd H (by simp)
                ·rw [if_neg c39] at H
                 have c39b0 : (x7_2 == (wrap64 ((l0.length : Int) - 1))) = false := beq_eq_false_iff_ne.mpr c39
                 have c39b1 : (x7_2 != (wrap64 ((l0.length : Int) - 1))) = true := bne_iff_ne.mpr c39
                 have H' := Aside0.mk H
                 clear H
                 go_wp2
                 go_roundg kj23
                 case measure => have := HJ2.out; have := HK2.out; have := HJ23.out; omega
                 case rel => exact ⟨(((x5_2 ++ (⟨#[47]⟩ : ByteArray)) ++ t227)), (x6_2), (wrap64 (x7_2 + 1)), (by first | rfl | (simp; done) | (simp [*]; done)), (by first | rfl | (simp; done) | (simp [*]; done)), H', ⟨by have := HJ2.out; have := HK2.out; have := HJ23.out; omega⟩, ⟨by (with_reducible repeat (first | apply Kd.R_alloc | apply Kd.R_drewN | apply Kd.R_drew)); exact HO_6.out⟩, ⟨by repeat (first | (with_reducible first | exact HB.out | apply below_alloc | apply pw_below_drewN | apply below_drew1) | exact HB.out)⟩⟩
           ·rw [if_neg c17] at H
            exact absurd H (by simp)
          ·rw [if_neg c15] at H
           exact absurd H (by simp)
         ·rw [if_neg c12] at H
          exact absurd H (by simp)
        ·rw [if_neg c11] at H
         exact absurd H (by simp)
       ·rw [if_neg c9] at H
        exact absurd H (by simp)
      ·rw [if_neg c8] at H
       have c8b0 : decide (x7_2 < (l0.length : Int)) = false := decide_eq_false c8
       clear c8
       have H' := Aside0.mk H
       clear H
       go_wp2
       go_loopg [10, 11] k2 (fun kq v10 v11 w' => ∃ (x10_3 : ByteArray) (x11_3 : Int), v10 = .string x10_3 ∧ v11 = .int .i64 x11_3 ∧ Aside0 (lockkeeperlaw4_TargetSegments.l1 kq x5_2 x6_2 x10_3 x11_3 = some r) ∧ Aside0 (kq ≤ k2) ∧ Aside0 (Kd.R Kd.string 9 w' w.heap.size (fun _ => True) u6 x6_2) ∧ Aside0 (Below w.heap.size w w'))
       case atStart => exact ⟨((⟨#[]⟩ : ByteArray)), (0), (by first | rfl | (simp; done) | (simp [*]; done)), (by first | rfl | (simp; done) | (simp [*]; done)), H', ⟨Nat.le_refl _⟩, ⟨by (with_reducible repeat (first | apply Kd.R_alloc | apply Kd.R_drewN | apply Kd.R_drew)); exact HO_6.out⟩, ⟨by repeat (first | (with_reducible first | exact HB.out | apply below_alloc | apply pw_below_drewN | apply below_drew1) | exact HB.out)⟩⟩
       case round =>
        clear H'
        try clear c1
        try clear hx1
        try clear c2
        try clear p2
        try clear q2
        try clear hx2
        try clear c3
        try clear q3
        try clear c4
        try clear c4b0
        try clear c4b1
        try clear c5
        try clear p6
        try clear c8
        try clear c8b0
        try clear c9
        try clear c9b0
        try clear c11
        try clear c11b0
        try clear c12
        try clear c12b0
        try clear c13
        try clear hx13
        try clear c15
        try clear c15b0
        try clear c15b1
        try clear c15b2
        try clear c17
        try clear c17b0
        try clear c17b1
        try clear c17b2
        try clear c18
        try clear c18b0
        try clear c20
        try clear p22
        try clear q22
        try clear hx22
        try clear c26
        try clear c26b0
        try clear c28
        try clear c29
        try clear c30
        try clear c30b0
        try clear c30b1
        try clear c31
        try clear c31b0
        try clear c31b1
        try clear c32
        try clear c32b0
        try clear c32b1
        try clear c33
        try clear q35
        try clear q38
        try clear c39
        try clear c39b0
        try clear c39b1
        try clear c40
        try clear hx223_0
        try clear hx225_0
        try clear p2
        try clear p22
        try clear p223
        try clear p225
        try clear p6
        try clear q2
        try clear q22
        try clear q223
        try clear q225
        try clear q35
        try clear q38
        obtain ⟨x10_3, x11_3, rfl, rfl, HA, HK3, HO_6, HB⟩ := hrel
        cases gk with
        | zero => exact absurd HA.out (by simp [lockkeeperlaw4_TargetSegments.l1])
        | succ k3 =>
         have H := HA.out
         clear HA
         simp only [lockkeeperlaw4_TargetSegments.l1] at H
         by_cases c42 : x11_3 < (x6_2.length : Int)
         ·rw [if_pos c42] at H
          have c42b0 : decide (x11_3 < (x6_2.length : Int)) = true := decide_eq_true c42
          clear c42
          by_cases c43 : x10_3.size + 1 ≤ 9223372036854775807
          ·rw [if_pos c43] at H
           have c43b0 := eq_true c43
           have c43b1 : decide (x10_3.size + 1 ≤ 9223372036854775807) = true := decide_eq_true c43
           try have c43b2 : (9223372036854775807 < x10_3.size + 1) = False := eq_false (Nat.not_lt.2 c43)
           by_cases c44 : 0 ≤ x11_3
           ·rw [if_pos c44] at H
            have c44b0 : decide (0 ≤ x11_3) = true := decide_eq_true c44
            clear c44
            by_cases c45 : (x10_3 ++ (⟨#[47]⟩ : ByteArray)).size + (rdOf ByteArray.empty x6_2 x11_3).size ≤ 9223372036854775807
            ·rw [if_pos c45] at H
             try (have c45b5 := c45; simp only [ByteArray.size_append, Int.natCast_add] at c45b5)
             have c45b0 := eq_true c45
             have c45b1 : decide ((x10_3 ++ (⟨#[47]⟩ : ByteArray)).size + (rdOf ByteArray.empty x6_2 x11_3).size ≤ 9223372036854775807) = true := decide_eq_true c45
             try have c45b2 : (9223372036854775807 < (x10_3 ++ (⟨#[47]⟩ : ByteArray)).size + (rdOf ByteArray.empty x6_2 x11_3).size) = False := eq_false (Nat.not_lt.2 c45)
             try have c45b3 : (9223372036854775807 < x10_3.size + 1 + (rdOf ByteArray.empty x6_2 x11_3).size) = False := eq_false (Nat.not_lt.2 (by have z_ := c45; simp only [ByteArray.size_append] at z_; first | exact z_ | simpa using z_))
             have H' := Aside0.mk H
             clear H
             obtain ⟨Ao46, co46, eo46⟩ := Kd.R_slice HO_6.out
             subst eo46
             have p241 : 0 ≤ (x11_3 : Int) := of_decide_eq_true (by first | (with_reducible assumption) | assumption)
             have q241 : x11_3 < (x6_2.length : Int) := of_decide_eq_true (by first | (with_reducible assumption) | assumption)
             obtain ⟨ad241, e241, hx241_0⟩ := Kd.at_string (Kd.R_reads' HO_6.out).2.2 x11_3 p241 q241
             cases e241
             replace p241 := eq_true p241
             replace q241 := eq_true q241
             go_wp2
             go_roundg k3
             case measure => have := HJ2.out; have := HK2.out; have := HK3.out; omega
             case rel => exact ⟨((x10_3 ++ (⟨#[47]⟩ : ByteArray)) ++ (rdOf ByteArray.empty x6_2 x11_3)), (wrap64 (x11_3 + 1)), (by first | rfl | (simp; done) | (simp [*]; done)), (by first | rfl | (simp; done) | (simp [*]; done)), H', ⟨by have := HJ2.out; have := HK2.out; have := HK3.out; omega⟩, ⟨by (with_reducible repeat (first | apply Kd.R_alloc | apply Kd.R_drewN | apply Kd.R_drew)); exact HO_6.out⟩, ⟨by repeat (first | (with_reducible first | exact HB.out | apply below_alloc | apply pw_below_drewN | apply below_drew1) | exact HB.out)⟩⟩
            ·rw [if_neg c45] at H
             exact absurd H (by simp)
           ·rw [if_neg c44] at H
            exact absurd H (by simp)
          ·rw [if_neg c43] at H
           exact absurd H (by simp)
         ·rw [if_neg c42] at H
          have c42b0 : decide (x11_3 < (x6_2.length : Int)) = false := decide_eq_false c42
          clear c42
          replace H := Option.bind_eq_some_iff.mp H
          obtain ⟨t242, A470, H⟩ := H
          replace H : (if t242.toList = x10_3.toList then ((lockkeeperlaw4_awake.f k3).bind fun t243 => (some t243)) else (some false)) = some r := H
          have A47 := Aside0.mk A470
          clear A470
          by_cases c48 : t242.toList = x10_3.toList
          ·rw [if_pos c48] at H
           have c48b0 : (t242.toList == x10_3.toList) = true := beq_iff_eq.mpr c48
           have c48b1 : (t242.toList != x10_3.toList) = false := bne_eq_false_iff_eq.mpr c48
           clear c48
           replace H := Option.bind_eq_some_iff.mp H
           obtain ⟨t243, A490, H⟩ := H
           replace H : (some t243) = some r := H
           have A49 := Aside0.mk A490
           clear A490
           clear hr_
           obtain rfl := Option.some.inj H
           obtain ⟨Ao50, co50, eo50⟩ := Kd.R_slice HO_6.out
           subst eo50
           go_wp2_with (first | ((with_reducible refine gate_callee (f := 36) rfl ?_); refine goesL_ (some 89) rfl rfl Tryd.func36 (by kernel_rfl) rfl #[.string x5_2] rfl (by (try simp only [List.map_toArray, List.map_cons, List.map_nil]); first | done | rfl | (simp only [List.length_drop, List.length_take]; rfl)) ?_; (with_reducible refine (target_Clean.calls k3 x5_2 t242 _ A47.out).mono ?_); rintro e w51 ⟨rfl, hb⟩; refine ⟨_, rfl, ?_⟩; have n0_ := Aside0.mk (Kd.R_below (by (with_reducible repeat (first | apply Kd.R_alloc | apply Kd.R_drewN | apply Kd.R_drew)); exact HO_6.out) hb); have n1_ := Aside0.mk (below_step (by repeat (first | (with_reducible first | exact HB.out | apply below_alloc | apply pw_below_drewN | apply below_drew1) | exact HB.out)) hb); clear HO_6; clear HB; have HO_6 := n0_; have HB := n1_; clear n0_ n1_; (try clear hb); (try clear hb2); (try clear hk); (try clear hi)) | (go_at_call 33; (with_reducible refine (lockkeeperlaw4_awake.calls k3  t243 _ ?side1 A49.out).mono ?_); (case side1 => exact ⟨by repeat (first | (with_reducible exact hM_.out) | (with_reducible exact LaidW.below hM_.out HB.out) | (with_reducible refine LaidW.alloc ?_ _) | (with_reducible refine LaidW.drewN ?_ _) | (with_reducible refine LaidW.drew ?_) | exact LaidW.below hM_.out (by repeat (first | (with_reducible first | exact HB.out | apply below_alloc | apply pw_below_drewN | apply below_drew1) | exact HB.out)))⟩); rintro e w52 ⟨rfl, hb⟩; have n0_ := Aside0.mk (Kd.R_below (by (with_reducible repeat (first | apply Kd.R_alloc | apply Kd.R_drewN | apply Kd.R_drew)); exact HO_6.out) hb); have n1_ := Aside0.mk (below_step (by repeat (first | (with_reducible first | exact HB.out | apply below_alloc | apply pw_below_drewN | apply below_drew1) | exact HB.out)) hb); clear HO_6; clear HB; have HO_6 := n0_; have HB := n1_; clear n0_ n1_; (try clear hb); (try clear hb2); (try clear hk); (try clear hi)))
           go_ret
           exact ⟨by first | rfl | (simp [errW_none, errW_some] <;> rfl) | (simp [*, errW_none, errW_some] <;> rfl), by repeat (first | (with_reducible first | exact HB.out | apply below_alloc | apply pw_below_drewN | apply below_drew1) | exact HB.out)⟩
          ·rw [if_neg c48] at H
           have c48b0 : (t242.toList == x10_3.toList) = false := beq_eq_false_iff_ne.mpr c48
           have c48b1 : (t242.toList != x10_3.toList) = true := bne_iff_ne.mpr c48
           exact absurd ((Option.some.inj H).trans hr_) (by decide)
end Go.Proofs.YtbfbidifodcedaaDoor.Pr
