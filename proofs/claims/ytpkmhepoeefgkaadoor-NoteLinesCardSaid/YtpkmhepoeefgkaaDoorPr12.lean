-- Made by a program of this session (wip/xp/xp.py), over the print's words.
import Derived.Test.YtpkmhepoeefgkaaDoorPr0
import Derived.Test.YtpkmhepoeefgkaaDoorPr4
import Derived.Test.YtpkmhepoeefgkaaDoorPr9
import Derived.Test.YtpkmhepoeefgkaaDoorPr10
import Derived.Test.YtpkmhepoeefgkaaDoorG10
import Derived.Test.YtpkmhepoeefgkaaDoorG5
import Derived.Test.YtpkmhepoeefgkaaDoorG9
namespace Go.Proofs.YtpkmhepoeefgkaaDoor.Pr
open Go.RowKit Go.Proofs.YtpkmhepoeefgkaaDoorW.PrintWords Go.Proofs.YtpkmhepoeefgkaaDoorW.PrintLast Go.Proofs.YtpkmhepoeefgkaaDoorW.PrintMore
attribute [local go_sem] max2_int min2_int max_two min_two max_three min_three max_four min_four   -- for this text's walks alone
set_option linter.unusedVariables false
set_option linter.unusedSimpArgs false

/-! ### lockkeeperlaw24_NoteLines: function 6 -/
mutual
def lockkeeperlaw24_NoteLines.l0 : Nat → List (S24) → Int → Bool → Int → Option (Bool)
 | 0, _, _, _, _ => none
 | k + 1, x0, x1, x5, x6 => if x6 < (x0.length : Int) then (if x5 = true then (if 0 ≤ x6 then ((note_Check.f ((rd_T24 x0 x6).f0) ((rd_T24 x0 x6).f1) ((rd_T24 x0 x6).f2) ((rd_T24 x0 x6).f3) ((rd_T24 x0 x6).f4) ((rd_T24 x0 x6).f5) ((rd_T24 x0 x6).f6)).bind fun t331 => (lockkeeperlaw24_NoteLines.l0 k x0 x1 t331 (wrap64 (x6 + 1)))) else (none)) else (lockkeeperlaw24_NoteLines.l0 k x0 x1 false (wrap64 (x6 + 1)))) else ((note_Lines.f k x0).bind fun bt332 => (if x5 = true then ((note_Split.f k bt332.1).bind fun bt335 => (if bt332.2 = 0 then (if bt335.2.2 = 0 then (if bt335.2.1 = 0 then ((lockkeeperlaw0_Events.f k x0 bt335.1).bind fun t340 => (lockkeeperlaw24_NoteLines.j1 k x1 bt332.1 (!t340))) else (lockkeeperlaw24_NoteLines.j1 k x1 bt332.1 true)) else (lockkeeperlaw24_NoteLines.j1 k x1 bt332.1 true)) else (lockkeeperlaw24_NoteLines.j1 k x1 bt332.1 true))) else (if bt332.1.toList = ([] : List UInt8) then (if bt332.2 = 2 then ((lockkeeperlaw24_awake.f k).bind fun t334 => (some t334)) else (some false)) else (some false))))
def lockkeeperlaw24_NoteLines.j1 : Nat → Int → ByteArray → Bool → Option (Bool)
 | 0, _, _, _ => none
 | k + 1, x1, x7, x73 => if x73 = true then (some false) else (if (x7.size : Int) = 0 then ((lockkeeperlaw24_awake.f k).bind fun t341 => (some t341)) else ((lockkeeperlaw0_Low.f x1 (x7.size : Int)).bind fun t342 => (lockkeeperlaw24_NoteLines.l1 k x7 t342 0 0)))
def lockkeeperlaw24_NoteLines.l1 : Nat → ByteArray → Int → Int → Int → Option (Bool)
 | 0, _, _, _, _ => none
 | k + 1, x7, x12, x13, x14 => if x14 < x12 then (if 0 ≤ x14 then (if x14 < (x7.size : Int) then (if (bt x7 x14) = 10 then (lockkeeperlaw24_NoteLines.l1 k x7 x12 (wrap64 (x13 + 1)) (wrap64 (x14 + 1))) else (lockkeeperlaw24_NoteLines.l1 k x7 x12 x13 (wrap64 (x14 + 1)))) else (none)) else (none)) else (if 0 ≤ x12 then (if x12 ≤ (x7.size : Int) then ((note_Split.f k (x7.extract 0 (x12 : Int).toNat)).bind fun bt343 => (if x12 = 0 then (lockkeeperlaw24_NoteLines.j3 k x13 bt343.1 bt343.2.1 bt343.2.2 true) else (if 0 ≤ (wrap64 (x12 - 1)) then (if (wrap64 (x12 - 1)) < (x7.size : Int) then (lockkeeperlaw24_NoteLines.j3 k x13 bt343.1 bt343.2.1 bt343.2.2 ((bt x7 (wrap64 (x12 - 1))) == 10)) else (none)) else (none)))) else (none)) else (none))
def lockkeeperlaw24_NoteLines.j3 : Nat → Int → List (S24) → Int → Int → Bool → Option (Bool)
 | 0, _, _, _, _, _ => none
 | k + 1, x13, x15, x16, x17, x109 => if x109 = true then (if x17 = 0 then (if x16 = 0 then (if (x15.length : Int) = x13 then ((lockkeeperlaw24_awake.f k).bind fun t348 => (some t348)) else (some false)) else (some false)) else (some false)) else (if x17 = 3 then (if x16 = (wrap64 (x13 + 1)) then (if (x15.length : Int) = 0 then ((lockkeeperlaw24_awake.f k).bind fun t349 => (some t349)) else (some false)) else (some false)) else (some false))
end
def lockkeeperlaw24_NoteLines.f (k : Nat) (l0 : List (S24)) (a1 : Int) : Option (Bool) := if (l0.length : Int) > 60 then ((lockkeeperlaw24_awake.f k).bind fun t329 => (some t329)) else (lockkeeperlaw24_NoteLines.l0 k l0 a1 true 0)
theorem lockkeeperlaw24_NoteLines.mono_l : ∀ k, (∀ y0 y1 y2 y3, LeO (lockkeeperlaw24_NoteLines.l0 k y0 y1 y2 y3) (lockkeeperlaw24_NoteLines.l0 (k + 1) y0 y1 y2 y3)) ∧ (∀ y0 y1 y2, LeO (lockkeeperlaw24_NoteLines.j1 k y0 y1 y2) (lockkeeperlaw24_NoteLines.j1 (k + 1) y0 y1 y2)) ∧ (∀ y0 y1 y2 y3, LeO (lockkeeperlaw24_NoteLines.l1 k y0 y1 y2 y3) (lockkeeperlaw24_NoteLines.l1 (k + 1) y0 y1 y2 y3)) ∧ (∀ y0 y1 y2 y3 y4, LeO (lockkeeperlaw24_NoteLines.j3 k y0 y1 y2 y3 y4) (lockkeeperlaw24_NoteLines.j3 (k + 1) y0 y1 y2 y3 y4))
 | 0 => ⟨fun _ _ _ _ r h => by simp [lockkeeperlaw24_NoteLines.l0] at h, fun _ _ _ r h => by simp [lockkeeperlaw24_NoteLines.j1] at h, fun _ _ _ _ r h => by simp [lockkeeperlaw24_NoteLines.l1] at h, fun _ _ _ _ _ r h => by simp [lockkeeperlaw24_NoteLines.j3] at h⟩
 | k + 1 => by
  obtain ⟨ih0, ih1, ih2, ih3⟩ := lockkeeperlaw24_NoteLines.mono_l k
  refine ⟨?_, ?_, ?_, ?_⟩
  ·intro y0 y1 y2 y3
   unfold lockkeeperlaw24_NoteLines.l0
   repeat' first
   | (with_reducible exact ih0 _ _ _ _)
   | (with_reducible exact ih1 _ _ _)
   | (with_reducible exact ih2 _ _ _ _)
   | (with_reducible exact ih3 _ _ _ _ _)
   | (with_reducible exact lockkeeperlaw0_Events.mono _ _ _)
   | (with_reducible exact lockkeeperlaw24_awake.mono _)
   | (with_reducible exact note_Lines.mono _ _)
   | (with_reducible exact note_Split.mono _ _)
   | (with_reducible exact LeO.refl _)
   | (with_reducible exact LeO.none _)
   | (with_reducible refine LeO.ite ?_ ?_)
   | (with_reducible refine LeO.bind ?_ (fun _ => ?_))
   | exact ih0 _ _ _ _
   | exact ih1 _ _ _
   | exact ih2 _ _ _ _
   | exact ih3 _ _ _ _ _
   | exact lockkeeperlaw0_Events.mono _ _ _
   | exact lockkeeperlaw24_awake.mono _
   | exact note_Lines.mono _ _
   | exact note_Split.mono _ _
   | exact LeO.none _
   | refine LeO.ite ?_ ?_
   | refine LeO.bind ?_ (fun _ => ?_)
  ·intro y0 y1 y2
   unfold lockkeeperlaw24_NoteLines.j1
   repeat' first
   | (with_reducible exact ih0 _ _ _ _)
   | (with_reducible exact ih1 _ _ _)
   | (with_reducible exact ih2 _ _ _ _)
   | (with_reducible exact ih3 _ _ _ _ _)
   | (with_reducible exact lockkeeperlaw0_Events.mono _ _ _)
   | (with_reducible exact lockkeeperlaw24_awake.mono _)
   | (with_reducible exact note_Lines.mono _ _)
   | (with_reducible exact note_Split.mono _ _)
   | (with_reducible exact LeO.refl _)
   | (with_reducible exact LeO.none _)
   | (with_reducible refine LeO.ite ?_ ?_)
   | (with_reducible refine LeO.bind ?_ (fun _ => ?_))
   | exact ih0 _ _ _ _
   | exact ih1 _ _ _
   | exact ih2 _ _ _ _
   | exact ih3 _ _ _ _ _
   | exact lockkeeperlaw0_Events.mono _ _ _
   | exact lockkeeperlaw24_awake.mono _
   | exact note_Lines.mono _ _
   | exact note_Split.mono _ _
   | exact LeO.none _
   | refine LeO.ite ?_ ?_
   | refine LeO.bind ?_ (fun _ => ?_)
  ·intro y0 y1 y2 y3
   unfold lockkeeperlaw24_NoteLines.l1
   repeat' first
   | (with_reducible exact ih0 _ _ _ _)
   | (with_reducible exact ih1 _ _ _)
   | (with_reducible exact ih2 _ _ _ _)
   | (with_reducible exact ih3 _ _ _ _ _)
   | (with_reducible exact lockkeeperlaw0_Events.mono _ _ _)
   | (with_reducible exact lockkeeperlaw24_awake.mono _)
   | (with_reducible exact note_Lines.mono _ _)
   | (with_reducible exact note_Split.mono _ _)
   | (with_reducible exact LeO.refl _)
   | (with_reducible exact LeO.none _)
   | (with_reducible refine LeO.ite ?_ ?_)
   | (with_reducible refine LeO.bind ?_ (fun _ => ?_))
   | exact ih0 _ _ _ _
   | exact ih1 _ _ _
   | exact ih2 _ _ _ _
   | exact ih3 _ _ _ _ _
   | exact lockkeeperlaw0_Events.mono _ _ _
   | exact lockkeeperlaw24_awake.mono _
   | exact note_Lines.mono _ _
   | exact note_Split.mono _ _
   | exact LeO.none _
   | refine LeO.ite ?_ ?_
   | refine LeO.bind ?_ (fun _ => ?_)
  ·intro y0 y1 y2 y3 y4
   unfold lockkeeperlaw24_NoteLines.j3
   repeat' first
   | (with_reducible exact ih0 _ _ _ _)
   | (with_reducible exact ih1 _ _ _)
   | (with_reducible exact ih2 _ _ _ _)
   | (with_reducible exact ih3 _ _ _ _ _)
   | (with_reducible exact lockkeeperlaw0_Events.mono _ _ _)
   | (with_reducible exact lockkeeperlaw24_awake.mono _)
   | (with_reducible exact note_Lines.mono _ _)
   | (with_reducible exact note_Split.mono _ _)
   | (with_reducible exact LeO.refl _)
   | (with_reducible exact LeO.none _)
   | (with_reducible refine LeO.ite ?_ ?_)
   | (with_reducible refine LeO.bind ?_ (fun _ => ?_))
   | exact ih0 _ _ _ _
   | exact ih1 _ _ _
   | exact ih2 _ _ _ _
   | exact ih3 _ _ _ _ _
   | exact lockkeeperlaw0_Events.mono _ _ _
   | exact lockkeeperlaw24_awake.mono _
   | exact note_Lines.mono _ _
   | exact note_Split.mono _ _
   | exact LeO.none _
   | refine LeO.ite ?_ ?_
   | refine LeO.bind ?_ (fun _ => ?_)
theorem lockkeeperlaw24_NoteLines.mono : ∀ a0 a1 k, LeO (lockkeeperlaw24_NoteLines.f k a0 a1) (lockkeeperlaw24_NoteLines.f (k + 1) a0 a1) := by
 intro a0 a1 k
 obtain ⟨ih0, ih1, ih2, ih3⟩ := lockkeeperlaw24_NoteLines.mono_l k
 unfold lockkeeperlaw24_NoteLines.f
 repeat' first
   | (with_reducible exact ih0 _ _ _ _)
   | (with_reducible exact ih1 _ _ _)
   | (with_reducible exact ih2 _ _ _ _)
   | (with_reducible exact ih3 _ _ _ _ _)
   | (with_reducible exact lockkeeperlaw0_Events.mono _ _ _)
   | (with_reducible exact lockkeeperlaw24_awake.mono _)
   | (with_reducible exact note_Lines.mono _ _)
   | (with_reducible exact note_Split.mono _ _)
   | (with_reducible exact LeO.refl _)
   | (with_reducible exact LeO.none _)
   | (with_reducible refine LeO.ite ?_ ?_)
   | (with_reducible refine LeO.bind ?_ (fun _ => ?_))
   | exact ih0 _ _ _ _
   | exact ih1 _ _ _
   | exact ih2 _ _ _ _
   | exact ih3 _ _ _ _ _
   | exact lockkeeperlaw0_Events.mono _ _ _
   | exact lockkeeperlaw24_awake.mono _
   | exact note_Lines.mono _ _
   | exact note_Split.mono _ _
   | exact LeO.none _
   | refine LeO.ite ?_ ?_
   | refine LeO.bind ?_ (fun _ => ?_)
set_option maxHeartbeats 8000000 in
set_option maxRecDepth 100000 in
theorem lockkeeperlaw24_NoteLines.calls (k : Nat) (A0 : Option Addr) (c0 : Nat) (l0 : List (S24)) (a1 : Int) (r : Bool) (w : World) (hr0 : Kd.C k24 w A0 l0.length l0) (hc0 : l0.length ≤ c0) (hM_ : Aside0 (LaidW w)) (hr_ : r = true) (h : lockkeeperlaw24_NoteLines.f k l0 a1 = some r) :
  Calls Tryd.prog 6 #[.slice A0 l0.length c0, .int .i64 a1] w fun e w' => e = .returned (.bool r) ∧ Below w.heap.size w w' := by
 have hu24 := Tryd.underlying24
 have HR0 := Aside0.mk hr0
 have HC0 := Aside0.mk hc0
 clear hr0 hc0
 have HB := Aside0.mk (Below.refl w.heap.size w)
 have H : (if (l0.length : Int) > 60 then ((lockkeeperlaw24_awake.f k).bind fun t329 => (some t329)) else (lockkeeperlaw24_NoteLines.l0 k l0 a1 true 0)) = some r := h
 clear h
 by_cases c3 : (l0.length : Int) > 60
 ·rw [if_pos c3] at H
  have c3b0 : decide (60 < (l0.length : Int)) = true := decide_eq_true c3
  have c3b1 : decide (60 < l0.length) = true := decide_eq_true (by omega)
  clear c3
  replace H := Option.bind_eq_some_iff.mp H
  obtain ⟨t329, A40, H⟩ := H
  replace H : (some t329) = some r := H
  have A4 := Aside0.mk A40
  clear A40
  clear hr_
  obtain rfl := Option.some.inj H
  go_enter Tryd.func6, Tryd.ntmps6
  go_wp2_with (first | ((with_reducible refine gate_callee (f := 10) rfl ?_); refine goesL_ (some 21) rfl rfl Tryd.func10 (by kernel_rfl) rfl #[] rfl (by (try simp only [List.map_toArray, List.map_cons, List.map_nil]); first | done | rfl | (simp only [List.length_drop, List.length_take]; rfl)) ?_; (with_reducible refine (lockkeeperlaw24_awake.calls k  t329 _ ?side1 A4.out).mono ?_); (case side1 => exact ⟨by repeat (first | (with_reducible exact hM_.out) | (with_reducible exact LaidW.below hM_.out HB.out) | (with_reducible refine LaidW.alloc ?_ _) | (with_reducible refine LaidW.drewN ?_ _) | (with_reducible refine LaidW.drew ?_) | exact LaidW.below hM_.out (by repeat (first | (with_reducible first | exact HB.out | apply below_alloc | apply pw_below_drewN | apply below_drew1) | exact HB.out)))⟩); rintro e w5 ⟨rfl, hb⟩; refine ⟨_, rfl, ?_⟩; have n0_ := Aside0.mk (below_step (by repeat (first | (with_reducible first | exact HB.out | apply below_alloc | apply pw_below_drewN | apply below_drew1) | exact HB.out)) hb); clear HB; have HB := n0_; clear n0_; (try clear hb); (try clear hb2); (try clear hk); (try clear hi)))
  go_ret
  exact ⟨by first | rfl | (simp [errW_none, errW_some] <;> rfl) | (simp [*, errW_none, errW_some] <;> rfl), by repeat (first | (with_reducible first | exact HB.out | apply below_alloc | apply pw_below_drewN | apply below_drew1) | exact HB.out)⟩
 ·rw [if_neg c3] at H
  have c3b0 : decide (60 < (l0.length : Int)) = false := decide_eq_false c3
  have c3b1 : decide (60 < l0.length) = false := decide_eq_false (by omega)
  clear c3
  have H' := Aside0.mk H
  clear H
  go_enter Tryd.func6, Tryd.ntmps6
  go_wp2
  go_loopg [5, 6] k (fun kq v5 v6 w' => ∃ (x5_1 : Bool) (x6_1 : Int), v5 = .bool x5_1 ∧ v6 = .int .i64 x6_1 ∧ Aside0 (lockkeeperlaw24_NoteLines.l0 kq l0 a1 x5_1 x6_1 = some r) ∧ Aside0 (kq ≤ k) ∧ Aside0 (Below w.heap.size w w'))
  case atStart => exact ⟨(true), (0), (by first | rfl | (simp; done) | (simp [*]; done)), (by first | rfl | (simp; done) | (simp [*]; done)), H', ⟨Nat.le_refl _⟩, ⟨by repeat (first | (with_reducible first | exact HB.out | apply below_alloc | apply pw_below_drewN | apply below_drew1) | exact HB.out)⟩⟩
  case round =>
   clear H'
   try clear c1
   try clear p2
   try clear c3
   try clear c3b0
   try clear c3b1
   obtain ⟨x5_1, x6_1, rfl, rfl, HA, HK1, HB⟩ := hrel
   cases gk with
   | zero => exact absurd HA.out (by simp [lockkeeperlaw24_NoteLines.l0])
   | succ k1 =>
    have H := HA.out
    clear HA
    simp only [lockkeeperlaw24_NoteLines.l0] at H
    by_cases c6 : x6_1 < (l0.length : Int)
    ·rw [if_pos c6] at H
     have c6b0 : decide (x6_1 < (l0.length : Int)) = true := decide_eq_true c6
     clear c6
     by_cases c7 : x5_1 = true
     ·subst c7
      have H1 : (if 0 ≤ x6_1 then ((note_Check.f ((rd_T24 l0 x6_1).f0) ((rd_T24 l0 x6_1).f1) ((rd_T24 l0 x6_1).f2) ((rd_T24 l0 x6_1).f3) ((rd_T24 l0 x6_1).f4) ((rd_T24 l0 x6_1).f5) ((rd_T24 l0 x6_1).f6)).bind fun t331 => (lockkeeperlaw24_NoteLines.l0 k1 l0 a1 t331 (wrap64 (x6_1 + 1)))) else (none)) = some r := by rw [if_pos rfl] at H; exact H
      clear H
      have H := H1
      clear H1
      by_cases c8 : 0 ≤ x6_1
      ·rw [if_pos c8] at H
       have c8b0 : decide (0 ≤ x6_1) = true := decide_eq_true c8
       clear c8
       replace H := Option.bind_eq_some_iff.mp H
       obtain ⟨t331, A90, H⟩ := H
       replace H : (lockkeeperlaw24_NoteLines.l0 k1 l0 a1 t331 (wrap64 (x6_1 + 1))) = some r := H
       have A9 := Aside0.mk A90
       clear A90
       have H' := Aside0.mk H
       clear H
       have p330 : 0 ≤ (x6_1 : Int) := of_decide_eq_true (by first | (with_reducible assumption) | assumption)
       have q330 : x6_1 < (l0.length : Int) := of_decide_eq_true (by first | (with_reducible assumption) | assumption)
       obtain ⟨ad330, e330, hx330_0, hx330_1, hx330_2, hx330_3, hx330_4, hx330_5, hx330_6⟩ := at_T24 HR0.out x6_1 p330 q330
       cases e330
       replace hx330_0 := (HB.out.cell (World.block_lt_of_cell? w _ hx330_0)).trans hx330_0
       replace hx330_1 := (HB.out.cell (World.block_lt_of_cell? w _ hx330_1)).trans hx330_1
       replace hx330_2 := (HB.out.cell (World.block_lt_of_cell? w _ hx330_2)).trans hx330_2
       replace hx330_3 := (HB.out.cell (World.block_lt_of_cell? w _ hx330_3)).trans hx330_3
       replace hx330_4 := (HB.out.cell (World.block_lt_of_cell? w _ hx330_4)).trans hx330_4
       replace hx330_5 := (HB.out.cell (World.block_lt_of_cell? w _ hx330_5)).trans hx330_5
       replace hx330_6 := (HB.out.cell (World.block_lt_of_cell? w _ hx330_6)).trans hx330_6
       replace p330 := eq_true p330
       replace q330 := eq_true q330
       go_wp2_with (first | (go_at_call 9; (with_reducible refine (note_Check.calls ((rd_T24 l0 x6_1).f0) ((rd_T24 l0 x6_1).f1) ((rd_T24 l0 x6_1).f2) ((rd_T24 l0 x6_1).f3) ((rd_T24 l0 x6_1).f4) ((rd_T24 l0 x6_1).f5) ((rd_T24 l0 x6_1).f6) t331 _ A9.out).mono ?_); rintro e w10 ⟨rfl, hb⟩; have n0_ := Aside0.mk (below_step (by repeat (first | (with_reducible first | exact HB.out | apply below_alloc | apply pw_below_drewN | apply below_drew1) | exact HB.out)) hb); clear HB; have HB := n0_; clear n0_; (try clear hb); (try clear hb2); (try clear hk); (try clear hi)))
       go_roundg k1
       case measure => have := HK1.out; omega
       case rel => exact ⟨(t331), (wrap64 (x6_1 + 1)), (by first | rfl | (simp; done) | (simp [*]; done)), (by first | rfl | (simp; done) | (simp [*]; done)), H', ⟨by have := HK1.out; omega⟩, ⟨by repeat (first | (with_reducible first | exact HB.out | apply below_alloc | apply pw_below_drewN | apply below_drew1) | exact HB.out)⟩⟩
      ·rw [if_neg c8] at H
       exact absurd H (by simp)
     ·replace c7 := Bool.eq_false_iff.mpr c7
      subst c7
      have H1 : (lockkeeperlaw24_NoteLines.l0 k1 l0 a1 false (wrap64 (x6_1 + 1))) = some r := by rw [if_neg (show ¬ (false = true) by decide)] at H; exact H
      clear H
      have H := H1
      clear H1
      have H' := Aside0.mk H
      clear H
      go_wp2
      go_roundg k1
      case measure => have := HK1.out; omega
      case rel => exact ⟨(false), (wrap64 (x6_1 + 1)), (by first | rfl | (simp; done) | (simp [*]; done)), (by first | rfl | (simp; done) | (simp [*]; done)), H', ⟨by have := HK1.out; omega⟩, ⟨by repeat (first | (with_reducible first | exact HB.out | apply below_alloc | apply pw_below_drewN | apply below_drew1) | exact HB.out)⟩⟩
    ·rw [if_neg c6] at H
     have c6b0 : decide (x6_1 < (l0.length : Int)) = false := decide_eq_false c6
     clear c6
     replace H := Option.bind_eq_some_iff.mp H
     obtain ⟨⟨t332, t333⟩, A110, H⟩ := H
     replace H : (if x5_1 = true then ((note_Split.f k1 t332).bind fun bt335 => (if t333 = 0 then (if bt335.2.2 = 0 then (if bt335.2.1 = 0 then ((lockkeeperlaw0_Events.f k1 l0 bt335.1).bind fun t340 => (lockkeeperlaw24_NoteLines.j1 k1 a1 t332 (!t340))) else (lockkeeperlaw24_NoteLines.j1 k1 a1 t332 true)) else (lockkeeperlaw24_NoteLines.j1 k1 a1 t332 true)) else (lockkeeperlaw24_NoteLines.j1 k1 a1 t332 true))) else (if t332.toList = ([] : List UInt8) then (if t333 = 2 then ((lockkeeperlaw24_awake.f k1).bind fun t334 => (some t334)) else (some false)) else (some false))) = some r := H
     have A11 := Aside0.mk A110
     clear A110
     by_cases c12 : x5_1 = true
     ·subst c12
      have H1 : ((note_Split.f k1 t332).bind fun bt335 => (if t333 = 0 then (if bt335.2.2 = 0 then (if bt335.2.1 = 0 then ((lockkeeperlaw0_Events.f k1 l0 bt335.1).bind fun t340 => (lockkeeperlaw24_NoteLines.j1 k1 a1 t332 (!t340))) else (lockkeeperlaw24_NoteLines.j1 k1 a1 t332 true)) else (lockkeeperlaw24_NoteLines.j1 k1 a1 t332 true)) else (lockkeeperlaw24_NoteLines.j1 k1 a1 t332 true))) = some r := by rw [if_pos rfl] at H; exact H
      clear H
      have H := H1
      clear H1
      replace H := Option.bind_eq_some_iff.mp H
      obtain ⟨⟨t335, t336, t337⟩, A130, H⟩ := H
      replace H : (if t333 = 0 then (if t337 = 0 then (if t336 = 0 then ((lockkeeperlaw0_Events.f k1 l0 t335).bind fun t340 => (lockkeeperlaw24_NoteLines.j1 k1 a1 t332 (!t340))) else (lockkeeperlaw24_NoteLines.j1 k1 a1 t332 true)) else (lockkeeperlaw24_NoteLines.j1 k1 a1 t332 true)) else (lockkeeperlaw24_NoteLines.j1 k1 a1 t332 true)) = some r := H
      have A13 := Aside0.mk A130
      clear A130
      have HC14 := Aside0.mk H
      clear H
      go_upto_region 12 with (first | ((with_reducible refine gate_callee (f := 24) rfl ?_); refine goesL_ (some 38) rfl rfl Tryd.func24 (by kernel_rfl) rfl #[.slice A0 l0.length c0] rfl (by (try simp only [List.map_toArray, List.map_cons, List.map_nil]); first | done | rfl | (simp only [List.length_drop, List.length_take]; rfl)) ?_; (with_reducible refine (note_Lines.calls k1 _ _ l0 t332 t333 _ ?side1 ?side2 ?side3 A11.out).mono ?_); (case side1 => repeat (first | exact (Kd.C_below HR0.out HB.out) | (with_reducible refine Kd.C_alloc ?_ _) | (with_reducible refine Kd.C_drewN ?_ _) | (with_reducible refine Kd.C_drew ?_))); (case side2 => exact HC0.out); (case side3 => exact ⟨by repeat (first | (with_reducible exact hM_.out) | (with_reducible exact LaidW.below hM_.out HB.out) | (with_reducible refine LaidW.alloc ?_ _) | (with_reducible refine LaidW.drewN ?_ _) | (with_reducible refine LaidW.drew ?_) | exact LaidW.below hM_.out (by repeat (first | (with_reducible first | exact HB.out | apply below_alloc | apply pw_below_drewN | apply below_drew1) | exact HB.out)))⟩); rintro e w15 ⟨rfl, hb⟩; refine ⟨_, rfl, ?_⟩; have n0_ := Aside0.mk (below_step (by repeat (first | (with_reducible first | exact HB.out | apply below_alloc | apply pw_below_drewN | apply below_drew1) | exact HB.out)) hb); clear HB; have HB := n0_; clear n0_; (try clear hb); (try clear hb2); (try clear hk); (try clear hi)) | ((with_reducible refine gate_callee (f := 15) rfl ?_); refine goesL_ (some 54) rfl rfl Tryd.func15 (by kernel_rfl) rfl #[.string t332] rfl (by (try simp only [List.map_toArray, List.map_cons, List.map_nil]); first | done | rfl | (simp only [List.length_drop, List.length_take]; rfl)) ?_; (with_reducible refine (note_Split.calls k1 t332 t335 t336 t337 _ ?side1 A13.out).mono ?_); (case side1 => exact ⟨by repeat (first | (with_reducible exact hM_.out) | (with_reducible exact LaidW.below hM_.out HB.out) | (with_reducible refine LaidW.alloc ?_ _) | (with_reducible refine LaidW.drewN ?_ _) | (with_reducible refine LaidW.drew ?_) | exact LaidW.below hM_.out (by repeat (first | (with_reducible first | exact HB.out | apply below_alloc | apply pw_below_drewN | apply below_drew1) | exact HB.out)))⟩); rintro e w16 ⟨v338, rfl, ho0, hb⟩; refine ⟨_, rfl, ?_⟩; have n0_ := Aside0.mk (Kd.R_lower ho0 (below_size (by repeat (first | (with_reducible first | exact HB.out | apply below_alloc | apply pw_below_drewN | apply below_drew1) | exact HB.out)))); have n1_ := Aside0.mk (below_step (by repeat (first | (with_reducible first | exact HB.out | apply below_alloc | apply pw_below_drewN | apply below_drew1) | exact HB.out)) hb); clear HB; have HO339 := n0_; have HB := n1_; clear n0_ n1_; (try clear hb); (try clear hb2); (try clear hk); (try clear hi); (try clear ho0)))
      (try simp only [Act.put, List.setIfInBounds_toArray, List.set_cons_zero, List.set_cons_succ])
      go_cut [73] (fun v73 wc => ∃ (kq : Nat) (x73_13 : Bool), v73 = .bool x73_13 ∧ Aside0 (lockkeeperlaw24_NoteLines.j1 kq a1 t332 x73_13 = some r) ∧ Aside0 (kq ≤ k1) ∧ Aside0 (Below w.heap.size w wc))
      case first =>
       have H := HC14.out
       clear HC14
       by_cases c17 : t333 = 0
       ·rw [if_pos c17] at H
        have c17b0 : (t333 == 0) = true := beq_iff_eq.mpr c17
        have c17b1 : (t333 != 0) = false := bne_eq_false_iff_eq.mpr c17
        clear c17
        (first | rw [c17b0] | (simp only [i64_w, i32_w]; rw [c17b0]) | skip)
        by_cases c18 : t337 = 0
        ·rw [if_pos c18] at H
         have c18b0 : (t337 == 0) = true := beq_iff_eq.mpr c18
         have c18b1 : (t337 != 0) = false := bne_eq_false_iff_eq.mpr c18
         clear c18
         by_cases c19 : t336 = 0
         ·rw [if_pos c19] at H
          have c19b0 : (t336 == 0) = true := beq_iff_eq.mpr c19
          have c19b1 : (t336 != 0) = false := bne_eq_false_iff_eq.mpr c19
          clear c19
          replace H := Option.bind_eq_some_iff.mp H
          obtain ⟨t340, A200, H⟩ := H
          replace H : (lockkeeperlaw24_NoteLines.j1 k1 a1 t332 (!t340)) = some r := H
          have A20 := Aside0.mk A200
          clear A200
          have H' := Aside0.mk H
          clear H
          obtain ⟨Ao21, co21, eo21⟩ := Kd.R_slice HO339.out
          subst eo21
          go_wp2_with (first | (go_at_call 19; (with_reducible refine (lockkeeperlaw0_Events.calls k1 _ _ l0 _ _ t335 t340 _ ?side1 ?side2 ?side3 ?side4 A20.out).mono ?_); (case side1 => repeat (first | exact (Kd.C_below HR0.out HB.out) | (with_reducible refine Kd.C_alloc ?_ _) | (with_reducible refine Kd.C_drewN ?_ _) | (with_reducible refine Kd.C_drew ?_))); (case side2 => exact HC0.out); (case side3 => repeat (first | exact (Kd.R_reads' HO339.out).2.2 | (with_reducible refine Kd.C_alloc ?_ _) | (with_reducible refine Kd.C_drewN ?_ _) | (with_reducible refine Kd.C_drew ?_))); (case side4 => exact (Kd.R_reads' HO339.out).2.1); rintro e w' ⟨rfl, ⟨nd, rfl⟩⟩))
          go_meet
          case rel => exact ⟨_, (!t340), (by first | rfl | (simp; done) | (simp [*]; done)), H', ⟨by have := HK1.out; first | omega | exact Nat.le_refl _⟩, ⟨by repeat (first | (with_reducible first | exact HB.out | apply below_alloc | apply pw_below_drewN | apply below_drew1) | exact HB.out)⟩⟩
         ·rw [if_neg c19] at H
          have c19b0 : (t336 == 0) = false := beq_eq_false_iff_ne.mpr c19
          have c19b1 : (t336 != 0) = true := bne_iff_ne.mpr c19
          have H' := Aside0.mk H
          clear H
          go_wp2
          go_meet
          case rel => exact ⟨_, (true), (by first | rfl | (simp; done) | (simp [*]; done)), H', ⟨by have := HK1.out; first | omega | exact Nat.le_refl _⟩, ⟨by repeat (first | (with_reducible first | exact HB.out | apply below_alloc | apply pw_below_drewN | apply below_drew1) | exact HB.out)⟩⟩
        ·rw [if_neg c18] at H
         have c18b0 : (t337 == 0) = false := beq_eq_false_iff_ne.mpr c18
         have c18b1 : (t337 != 0) = true := bne_iff_ne.mpr c18
         have H' := Aside0.mk H
         clear H
         go_wp2
         go_meet
         case rel => exact ⟨_, (true), (by first | rfl | (simp; done) | (simp [*]; done)), H', ⟨by have := HK1.out; first | omega | exact Nat.le_refl _⟩, ⟨by repeat (first | (with_reducible first | exact HB.out | apply below_alloc | apply pw_below_drewN | apply below_drew1) | exact HB.out)⟩⟩
       ·rw [if_neg c17] at H
        have c17b0 : (t333 == 0) = false := beq_eq_false_iff_ne.mpr c17
        have c17b1 : (t333 != 0) = true := bne_iff_ne.mpr c17
        (first | rw [c17b0] | (simp only [i64_w, i32_w]; rw [c17b0]) | skip)
        have H' := Aside0.mk H
        clear H
        go_wp2
        go_meet
        case rel => exact ⟨_, (true), (by first | rfl | (simp; done) | (simp [*]; done)), H', ⟨by have := HK1.out; first | omega | exact Nat.le_refl _⟩, ⟨by repeat (first | (with_reducible first | exact HB.out | apply below_alloc | apply pw_below_drewN | apply below_drew1) | exact HB.out)⟩⟩
      case rest =>
       clear HC14
       try clear c1
       try clear c2
       try clear p2
       try clear c3
       try clear c3b0
       try clear c3b1
       try clear p3
       try clear q3
       try clear hx3
       try clear c6
       try clear c6b0
       try clear p6
       try clear c7
       try clear c8
       try clear c8b0
       try clear c10
       try clear c12
       try clear c15
       try clear c17
       try clear c17b0
       try clear c17b1
       try clear c18
       try clear c18b0
       try clear c18b1
       try clear c19
       try clear c19b0
       try clear c19b1
       try clear hx330_0
       try clear hx330_1
       try clear hx330_2
       try clear hx330_3
       try clear hx330_4
       try clear hx330_5
       try clear hx330_6
       try clear p2
       try clear p330
       try clear q330
       obtain ⟨kq, x73_13, rfl, HA, HJ13, HB⟩ := hcut
       cases kq with
       | zero => exact absurd HA.out (by simp [lockkeeperlaw24_NoteLines.j1])
       | succ kj13 =>
        have H := HA.out
        clear HA
        simp only [lockkeeperlaw24_NoteLines.j1] at H
        by_cases c22 : x73_13 = true
        ·subst c22
         have H1 : (some false) = some r := by rw [if_pos rfl] at H; exact H
         clear H
         have H := H1
         clear H1
         exact absurd ((Option.some.inj H).trans hr_) (by decide)
        ·replace c22 := Bool.eq_false_iff.mpr c22
         subst c22
         have H1 : (if (t332.size : Int) = 0 then ((lockkeeperlaw24_awake.f kj13).bind fun t341 => (some t341)) else ((lockkeeperlaw0_Low.f a1 (t332.size : Int)).bind fun t342 => (lockkeeperlaw24_NoteLines.l1 kj13 t332 t342 0 0))) = some r := by rw [if_neg (show ¬ (false = true) by decide)] at H; exact H
         clear H
         have H := H1
         clear H1
         by_cases c23 : (t332.size : Int) = 0
         ·rw [if_pos c23] at H
          have c23b0 : ((t332.size : Int) == 0) = true := beq_iff_eq.mpr c23
          have c23b1 : ((t332.size : Int) != 0) = false := bne_eq_false_iff_eq.mpr c23
          clear c23
          replace H := Option.bind_eq_some_iff.mp H
          obtain ⟨t341, A240, H⟩ := H
          replace H : (some t341) = some r := H
          have A24 := Aside0.mk A240
          clear A240
          clear hr_
          obtain rfl := Option.some.inj H
          go_wp2_with (first | ((with_reducible refine gate_callee (f := 10) rfl ?_); refine goesL_ (some 77) rfl rfl Tryd.func10 (by kernel_rfl) rfl #[] rfl (by (try simp only [List.map_toArray, List.map_cons, List.map_nil]); first | done | rfl | (simp only [List.length_drop, List.length_take]; rfl)) ?_; (with_reducible refine (lockkeeperlaw24_awake.calls kj13  t341 _ ?side1 A24.out).mono ?_); (case side1 => exact ⟨by repeat (first | (with_reducible exact hM_.out) | (with_reducible exact LaidW.below hM_.out HB.out) | (with_reducible refine LaidW.alloc ?_ _) | (with_reducible refine LaidW.drewN ?_ _) | (with_reducible refine LaidW.drew ?_) | exact LaidW.below hM_.out (by repeat (first | (with_reducible first | exact HB.out | apply below_alloc | apply pw_below_drewN | apply below_drew1) | exact HB.out)))⟩); rintro e w25 ⟨rfl, hb⟩; refine ⟨_, rfl, ?_⟩; have n0_ := Aside0.mk (below_step (by repeat (first | (with_reducible first | exact HB.out | apply below_alloc | apply pw_below_drewN | apply below_drew1) | exact HB.out)) hb); clear HB; have HB := n0_; clear n0_; (try clear hb); (try clear hb2); (try clear hk); (try clear hi)))
          go_ret
          exact ⟨by first | rfl | (simp [errW_none, errW_some] <;> rfl) | (simp [*, errW_none, errW_some] <;> rfl), by repeat (first | (with_reducible first | exact HB.out | apply below_alloc | apply pw_below_drewN | apply below_drew1) | exact HB.out)⟩
         ·rw [if_neg c23] at H
          have c23b0 : ((t332.size : Int) == 0) = false := beq_eq_false_iff_ne.mpr c23
          have c23b1 : ((t332.size : Int) != 0) = true := bne_iff_ne.mpr c23
          replace H := Option.bind_eq_some_iff.mp H
          obtain ⟨t342, A260, H⟩ := H
          replace H : (lockkeeperlaw24_NoteLines.l1 kj13 t332 t342 0 0) = some r := H
          have A26 := Aside0.mk A260
          clear A260
          have H' := Aside0.mk H
          clear H
          go_wp2_with (first | ((with_reducible refine gate_callee (f := 12) rfl ?_); refine goesL_ (some 81) rfl rfl Tryd.func12 (by kernel_rfl) rfl #[.int .i64 a1, .int .i64 (t332.size : Int)] rfl (by (try simp only [List.map_toArray, List.map_cons, List.map_nil]); first | done | rfl | (simp only [List.length_drop, List.length_take]; rfl)) ?_; (with_reducible refine (lockkeeperlaw0_Low.calls a1 (t332.size : Int) t342 _ A26.out).mono ?_); rintro e w' ⟨rfl, ⟨nd, rfl⟩⟩; refine ⟨_, rfl, ?_⟩))
          go_loopg [13, 14] kj13 (fun kq v13 v14 w' => ∃ (x13_3 : Int) (x14_3 : Int), v13 = .int .i64 x13_3 ∧ v14 = .int .i64 x14_3 ∧ Aside0 (lockkeeperlaw24_NoteLines.l1 kq t332 t342 x13_3 x14_3 = some r) ∧ Aside0 (kq ≤ kj13) ∧ Aside0 (Below w.heap.size w w'))
          case atStart => exact ⟨(0), (0), (by first | rfl | (simp; done) | (simp [*]; done)), (by first | rfl | (simp; done) | (simp [*]; done)), H', ⟨Nat.le_refl _⟩, ⟨by repeat (first | (with_reducible first | exact HB.out | apply below_alloc | apply pw_below_drewN | apply below_drew1) | exact HB.out)⟩⟩
          case round =>
           clear H'
           try clear c1
           try clear c2
           try clear p2
           try clear c3
           try clear c3b0
           try clear c3b1
           try clear p3
           try clear q3
           try clear hx3
           try clear c6
           try clear c6b0
           try clear p6
           try clear c7
           try clear c8
           try clear c8b0
           try clear c10
           try clear c12
           try clear c15
           try clear c17
           try clear c17b0
           try clear c17b1
           try clear c18
           try clear c18b0
           try clear c18b1
           try clear c19
           try clear c19b0
           try clear c19b1
           try clear c22
           try clear c23
           try clear c23b0
           try clear c23b1
           try clear c24
           try clear hx330_0
           try clear hx330_1
           try clear hx330_2
           try clear hx330_3
           try clear hx330_4
           try clear hx330_5
           try clear hx330_6
           try clear p2
           try clear p3
           try clear p330
           try clear p6
           try clear q3
           try clear q330
           obtain ⟨x13_3, x14_3, rfl, rfl, HA, HK3, HB⟩ := hrel
           cases gk with
           | zero => exact absurd HA.out (by simp [lockkeeperlaw24_NoteLines.l1])
           | succ k3 =>
            have H := HA.out
            clear HA
            simp only [lockkeeperlaw24_NoteLines.l1] at H
            by_cases c27 : x14_3 < t342
            ·rw [if_pos c27] at H
             have c27b0 : decide (x14_3 < t342) = true := decide_eq_true c27
             clear c27
             by_cases c28 : 0 ≤ x14_3
             ·rw [if_pos c28] at H
              have c28b0 : decide (0 ≤ x14_3) = true := decide_eq_true c28
              clear c28
              by_cases c29 : x14_3 < (t332.size : Int)
              ·rw [if_pos c29] at H
               have c29b0 : decide (x14_3 < (t332.size : Int)) = true := decide_eq_true c29
               clear c29
               by_cases c31 : (bt t332 x14_3) = 10
               ·rw [if_pos c31] at H
                have c31b0 : ((bt t332 x14_3) == 10) = true := beq_iff_eq.mpr c31
                have c31b1 : ((bt t332 x14_3) != 10) = false := bne_eq_false_iff_eq.mpr c31
                clear c31
                have H' := Aside0.mk H
                clear H
                have p30 : 0 ≤ (x14_3 : Int) := of_decide_eq_true (by first | (with_reducible assumption) | assumption)
                have q30 : x14_3 < (t332.size : Int) := of_decide_eq_true (by first | (with_reducible assumption) | assumption)
                have hx30 := bt_at t332 x14_3
                replace p30 := eq_true p30
                replace q30 := eq_true q30
                go_wp2
                go_roundg k3
                case measure => have := HK1.out; have := HJ13.out; have := HK3.out; omega
                case rel => exact ⟨(wrap64 (x13_3 + 1)), (wrap64 (x14_3 + 1)), (by first | rfl | (simp; done) | (simp [*]; done)), (by first | rfl | (simp; done) | (simp [*]; done)), H', ⟨by have := HK1.out; have := HJ13.out; have := HK3.out; omega⟩, ⟨by repeat (first | (with_reducible first | exact HB.out | apply below_alloc | apply pw_below_drewN | apply below_drew1) | exact HB.out)⟩⟩
               ·rw [if_neg c31] at H
                have c31b0 : ((bt t332 x14_3) == 10) = false := beq_eq_false_iff_ne.mpr c31
                have c31b1 : ((bt t332 x14_3) != 10) = true := bne_iff_ne.mpr c31
                have H' := Aside0.mk H
                clear H
                have p30 : 0 ≤ (x14_3 : Int) := of_decide_eq_true (by first | (with_reducible assumption) | assumption)
                have q30 : x14_3 < (t332.size : Int) := of_decide_eq_true (by first | (with_reducible assumption) | assumption)
                have hx30 := bt_at t332 x14_3
                replace p30 := eq_true p30
                replace q30 := eq_true q30
                go_wp2
                go_roundg k3
                case measure => have := HK1.out; have := HJ13.out; have := HK3.out; omega
                case rel => exact ⟨(x13_3), (wrap64 (x14_3 + 1)), (by first | rfl | (simp; done) | (simp [*]; done)), (by first | rfl | (simp; done) | (simp [*]; done)), H', ⟨by have := HK1.out; have := HJ13.out; have := HK3.out; omega⟩, ⟨by repeat (first | (with_reducible first | exact HB.out | apply below_alloc | apply pw_below_drewN | apply below_drew1) | exact HB.out)⟩⟩
              ·rw [if_neg c29] at H
               exact absurd H (by simp)
             ·rw [if_neg c28] at H
              exact absurd H (by simp)
            ·rw [if_neg c27] at H
             have c27b0 : decide (x14_3 < t342) = false := decide_eq_false c27
             clear c27
             by_cases c32 : 0 ≤ t342
             ·rw [if_pos c32] at H
              have c32b0 := eq_true c32
              have c32b1 : decide (0 ≤ t342) = true := decide_eq_true c32
              clear c32
              by_cases c33 : t342 ≤ (t332.size : Int)
              ·rw [if_pos c33] at H
               have c33b0 := eq_true c33
               have c33b1 : decide (t342 ≤ (t332.size : Int)) = true := decide_eq_true c33
               clear c33
               replace H := Option.bind_eq_some_iff.mp H
               obtain ⟨⟨t343, t344, t345⟩, A340, H⟩ := H
               replace H : (if t342 = 0 then (lockkeeperlaw24_NoteLines.j3 k3 x13_3 t343 t344 t345 true) else (if 0 ≤ (wrap64 (t342 - 1)) then (if (wrap64 (t342 - 1)) < (t332.size : Int) then (lockkeeperlaw24_NoteLines.j3 k3 x13_3 t343 t344 t345 ((bt t332 (wrap64 (t342 - 1))) == 10)) else (none)) else (none))) = some r := H
               have A34 := Aside0.mk A340
               clear A340
               have HC35 := Aside0.mk H
               clear H
               go_upto_region 24 with (first | ((with_reducible refine gate_callee (f := 15) rfl ?_); refine goesL_ (some 97) rfl rfl Tryd.func15 (by kernel_rfl) rfl #[.string (t332.extract 0 (t342 : Int).toNat)] rfl (by (try simp only [List.map_toArray, List.map_cons, List.map_nil]); first | done | rfl | (simp only [List.length_drop, List.length_take]; rfl)) ?_; (with_reducible refine (note_Split.calls k3 (t332.extract 0 (t342 : Int).toNat) t343 t344 t345 _ ?side1 A34.out).mono ?_); (case side1 => exact ⟨by repeat (first | (with_reducible exact hM_.out) | (with_reducible exact LaidW.below hM_.out HB.out) | (with_reducible refine LaidW.alloc ?_ _) | (with_reducible refine LaidW.drewN ?_ _) | (with_reducible refine LaidW.drew ?_) | exact LaidW.below hM_.out (by repeat (first | (with_reducible first | exact HB.out | apply below_alloc | apply pw_below_drewN | apply below_drew1) | exact HB.out)))⟩); rintro e w36 ⟨v346, rfl, ho0, hb⟩; refine ⟨_, rfl, ?_⟩; have n0_ := Aside0.mk (Kd.R_lower ho0 (below_size (by repeat (first | (with_reducible first | exact HB.out | apply below_alloc | apply pw_below_drewN | apply below_drew1) | exact HB.out)))); have n1_ := Aside0.mk (below_step (by repeat (first | (with_reducible first | exact HB.out | apply below_alloc | apply pw_below_drewN | apply below_drew1) | exact HB.out)) hb); clear HB; have HO347 := n0_; have HB := n1_; clear n0_ n1_; (try clear hb); (try clear hb2); (try clear hk); (try clear hi); (try clear ho0)))
               (try simp only [Act.put, List.setIfInBounds_toArray, List.set_cons_zero, List.set_cons_succ])
               go_cut [109] (fun v109 wc => ∃ (kq : Nat) (x109_34 : Bool), v109 = .bool x109_34 ∧ Aside0 (lockkeeperlaw24_NoteLines.j3 kq x13_3 t343 t344 t345 x109_34 = some r) ∧ Aside0 (kq ≤ k3) ∧ Aside0 (Kd.R k24 24 wc w.heap.size (fun _ => True) v346 t343) ∧ Aside0 (Below w.heap.size w wc))
               case first =>
                have H := HC35.out
                clear HC35
                by_cases c37 : t342 = 0
                ·rw [if_pos c37] at H
                 have c37b0 : (t342 == 0) = true := beq_iff_eq.mpr c37
                 have c37b1 : (t342 != 0) = false := bne_eq_false_iff_eq.mpr c37
                 clear c37
                 (first | rw [c37b0] | (simp only [i64_w, i32_w]; rw [c37b0]) | skip)
                 have H' := Aside0.mk H
                 clear H
                 go_wp2
                 go_meet
                 case rel => exact ⟨_, (true), (by first | rfl | (simp; done) | (simp [*]; done)), H', ⟨by have := HK1.out; have := HJ13.out; have := HK3.out; first | omega | exact Nat.le_refl _⟩, ⟨by (with_reducible repeat (first | apply Kd.R_alloc | apply Kd.R_drewN | apply Kd.R_drew)); exact HO347.out⟩, ⟨by repeat (first | (with_reducible first | exact HB.out | apply below_alloc | apply pw_below_drewN | apply below_drew1) | exact HB.out)⟩⟩
                ·rw [if_neg c37] at H
                 have c37b0 : (t342 == 0) = false := beq_eq_false_iff_ne.mpr c37
                 have c37b1 : (t342 != 0) = true := bne_iff_ne.mpr c37
                 (first | rw [c37b0] | (simp only [i64_w, i32_w]; rw [c37b0]) | skip)
                 obtain ⟨ji38, hji38⟩ : ∃ j_ : Int, (wrap64 (t342 - 1)) = j_ := ⟨_, rfl⟩
                 replace H : (if 0 ≤ (ji38) then (if (ji38) < (t332.size : Int) then (lockkeeperlaw24_NoteLines.j3 k3 x13_3 t343 t344 t345 ((bt t332 (ji38)) == 10)) else (none)) else (none)) = some r := by first | (rw [hji38] at H; exact H) | (simp only [hji38] at H ⊢; exact H)
                 have hji38w : (IntKind.i64.wrap (t342 - 1)) = ji38 := (i64_w _).trans hji38
                 by_cases c39 : 0 ≤ (ji38)
                 ·rw [if_pos c39] at H
                  have c39b0 : decide (0 ≤ (ji38)) = true := decide_eq_true c39
                  clear c39
                  by_cases c40 : (ji38) < (t332.size : Int)
                  ·rw [if_pos c40] at H
                   have c40b0 : decide ((ji38) < (t332.size : Int)) = true := decide_eq_true c40
                   clear c40
                   have H' := Aside0.mk H
                   clear H
                   have p41 : 0 ≤ ((ji38) : Int) := of_decide_eq_true (by first | (with_reducible assumption) | assumption)
                   have q41 : (ji38) < (t332.size : Int) := of_decide_eq_true (by first | (with_reducible assumption) | assumption)
                   have hx41 := bt_at t332 (ji38)
                   replace p41 := eq_true p41
                   replace q41 := eq_true q41
                   go_wp2
                   go_meet
                   case rel => exact ⟨_, (((bt t332 (ji38)) == 10)), (by first | rfl | (simp; done) | (simp only [← hji38] <;> (first | rfl | simp)) | (simp [*]; done)), H', ⟨by have := HK1.out; have := HJ13.out; have := HK3.out; first | omega | exact Nat.le_refl _⟩, ⟨by (with_reducible repeat (first | apply Kd.R_alloc | apply Kd.R_drewN | apply Kd.R_drew)); exact HO347.out⟩, ⟨by repeat (first | (with_reducible first | exact HB.out | apply below_alloc | apply pw_below_drewN | apply below_drew1) | exact HB.out)⟩⟩
                  ·rw [if_neg c40] at H
                   exact absurd H (by simp)
                 ·rw [if_neg c39] at H
                  exact absurd H (by simp)
               case rest =>
                clear HC35
                try clear c1
                try clear c2
                try clear p2
                try clear c3
                try clear c3b0
                try clear c3b1
                try clear p3
                try clear q3
                try clear hx3
                try clear c4
                try clear p4
                try clear q4
                try clear hx4
                try clear c6
                try clear c6b0
                try clear p6
                try clear c7
                try clear c8
                try clear c8b0
                try clear c10
                try clear c12
                try clear c15
                try clear c17
                try clear c17b0
                try clear c17b1
                try clear c18
                try clear c18b0
                try clear c18b1
                try clear c19
                try clear c19b0
                try clear c19b1
                try clear c22
                try clear c23
                try clear c23b0
                try clear c23b1
                try clear c24
                try clear c27
                try clear c27b0
                try clear c28
                try clear c28b0
                try clear c29
                try clear c29b0
                try clear p30
                try clear q30
                try clear hx30
                try clear c31
                try clear c31b0
                try clear c31b1
                try clear c32
                try clear c32b0
                try clear c32b1
                try clear c33
                try clear c33b0
                try clear c33b1
                try clear p33
                try clear q33
                try clear hx33
                try clear c37
                try clear c37b0
                try clear c37b1
                try clear c39
                try clear c39b0
                try clear c40
                try clear c40b0
                try clear p41
                try clear q41
                try clear hx41
                try clear hx330_0
                try clear hx330_1
                try clear hx330_2
                try clear hx330_3
                try clear hx330_4
                try clear hx330_5
                try clear hx330_6
                try clear p2
                try clear p3
                try clear p30
                try clear p330
                try clear p41
                try clear p6
                try clear q3
                try clear q30
                try clear q330
                try clear q41
                obtain ⟨kq, x109_34, rfl, HA, HJ34, HO_15, HB⟩ := hcut
                cases kq with
                | zero => exact absurd HA.out (by simp [lockkeeperlaw24_NoteLines.j3])
                | succ kj34 =>
                 have H := HA.out
                 clear HA
                 simp only [lockkeeperlaw24_NoteLines.j3] at H
                 by_cases c42 : x109_34 = true
                 ·subst c42
                  have H1 : (if t345 = 0 then (if t344 = 0 then (if (t343.length : Int) = x13_3 then ((lockkeeperlaw24_awake.f kj34).bind fun t348 => (some t348)) else (some false)) else (some false)) else (some false)) = some r := by rw [if_pos rfl] at H; exact H
                  clear H
                  have H := H1
                  clear H1
                  by_cases c43 : t345 = 0
                  ·rw [if_pos c43] at H
                   have c43b0 : (t345 == 0) = true := beq_iff_eq.mpr c43
                   have c43b1 : (t345 != 0) = false := bne_eq_false_iff_eq.mpr c43
                   clear c43
                   by_cases c44 : t344 = 0
                   ·rw [if_pos c44] at H
                    have c44b0 : (t344 == 0) = true := beq_iff_eq.mpr c44
                    have c44b1 : (t344 != 0) = false := bne_eq_false_iff_eq.mpr c44
                    clear c44
                    by_cases c45 : (t343.length : Int) = x13_3
                    ·rw [if_pos c45] at H
                     have c45b0 : ((t343.length : Int) == x13_3) = true := beq_iff_eq.mpr c45
                     have c45b1 : ((t343.length : Int) != x13_3) = false := bne_eq_false_iff_eq.mpr c45
                     clear c45
                     replace H := Option.bind_eq_some_iff.mp H
                     obtain ⟨t348, A460, H⟩ := H
                     replace H : (some t348) = some r := H
                     have A46 := Aside0.mk A460
                     clear A460
                     clear hr_
                     obtain rfl := Option.some.inj H
                     obtain ⟨Ao47, co47, eo47⟩ := Kd.R_slice HO_15.out
                     subst eo47
                     go_wp2_with (first | (go_at_call 10; (with_reducible refine (lockkeeperlaw24_awake.calls kj34  t348 _ ?side1 A46.out).mono ?_); (case side1 => exact ⟨by repeat (first | (with_reducible exact hM_.out) | (with_reducible exact LaidW.below hM_.out HB.out) | (with_reducible refine LaidW.alloc ?_ _) | (with_reducible refine LaidW.drewN ?_ _) | (with_reducible refine LaidW.drew ?_) | exact LaidW.below hM_.out (by repeat (first | (with_reducible first | exact HB.out | apply below_alloc | apply pw_below_drewN | apply below_drew1) | exact HB.out)))⟩); rintro e w48 ⟨rfl, hb⟩; have n0_ := Aside0.mk (Kd.R_below (by (with_reducible repeat (first | apply Kd.R_alloc | apply Kd.R_drewN | apply Kd.R_drew)); exact HO_15.out) hb); have n1_ := Aside0.mk (below_step (by repeat (first | (with_reducible first | exact HB.out | apply below_alloc | apply pw_below_drewN | apply below_drew1) | exact HB.out)) hb); clear HO_15; clear HB; have HO_15 := n0_; have HB := n1_; clear n0_ n1_; (try clear hb); (try clear hb2); (try clear hk); (try clear hi)))
                     go_ret
                     exact ⟨by first | rfl | (simp [errW_none, errW_some] <;> rfl) | (simp [*, errW_none, errW_some] <;> rfl), by repeat (first | (with_reducible first | exact HB.out | apply below_alloc | apply pw_below_drewN | apply below_drew1) | exact HB.out)⟩
                    ·rw [if_neg c45] at H
                     have c45b0 : ((t343.length : Int) == x13_3) = false := beq_eq_false_iff_ne.mpr c45
                     have c45b1 : ((t343.length : Int) != x13_3) = true := bne_iff_ne.mpr c45
                     exact absurd ((Option.some.inj H).trans hr_) (by decide)
                   ·rw [if_neg c44] at H
                    have c44b0 : (t344 == 0) = false := beq_eq_false_iff_ne.mpr c44
                    have c44b1 : (t344 != 0) = true := bne_iff_ne.mpr c44
                    exact absurd ((Option.some.inj H).trans hr_) (by decide)
                  ·rw [if_neg c43] at H
                   have c43b0 : (t345 == 0) = false := beq_eq_false_iff_ne.mpr c43
                   have c43b1 : (t345 != 0) = true := bne_iff_ne.mpr c43
                   exact absurd ((Option.some.inj H).trans hr_) (by decide)
                 ·replace c42 := Bool.eq_false_iff.mpr c42
                  subst c42
                  have H1 : (if t345 = 3 then (if t344 = (wrap64 (x13_3 + 1)) then (if (t343.length : Int) = 0 then ((lockkeeperlaw24_awake.f kj34).bind fun t349 => (some t349)) else (some false)) else (some false)) else (some false)) = some r := by rw [if_neg (show ¬ (false = true) by decide)] at H; exact H
                  clear H
                  have H := H1
                  clear H1
                  by_cases c50 : t345 = 3
                  ·rw [if_pos c50] at H
                   have c50b0 : (t345 == 3) = true := beq_iff_eq.mpr c50
                   have c50b1 : (t345 != 3) = false := bne_eq_false_iff_eq.mpr c50
                   clear c50
                   by_cases c51 : t344 = (wrap64 (x13_3 + 1))
                   ·rw [if_pos c51] at H
                    have c51b0 : (t344 == (wrap64 (x13_3 + 1))) = true := beq_iff_eq.mpr c51
                    have c51b1 : (t344 != (wrap64 (x13_3 + 1))) = false := bne_eq_false_iff_eq.mpr c51
                    clear c51
                    by_cases c52 : (t343.length : Int) = 0
                    ·rw [if_pos c52] at H
                     have c52b0 : ((t343.length : Int) == 0) = true := beq_iff_eq.mpr c52
                     have c52b1 : ((t343.length : Int) != 0) = false := bne_eq_false_iff_eq.mpr c52
                     clear c52
                     replace H := Option.bind_eq_some_iff.mp H
                     obtain ⟨t349, A530, H⟩ := H
                     replace H : (some t349) = some r := H
                     have A53 := Aside0.mk A530
                     clear A530
                     clear hr_
                     obtain rfl := Option.some.inj H
                     obtain ⟨Ao54, co54, eo54⟩ := Kd.R_slice HO_15.out
                     subst eo54
                     go_wp2_with (first | (go_at_call 10; (with_reducible refine (lockkeeperlaw24_awake.calls kj34  t349 _ ?side1 A53.out).mono ?_); (case side1 => exact ⟨by repeat (first | (with_reducible exact hM_.out) | (with_reducible exact LaidW.below hM_.out HB.out) | (with_reducible refine LaidW.alloc ?_ _) | (with_reducible refine LaidW.drewN ?_ _) | (with_reducible refine LaidW.drew ?_) | exact LaidW.below hM_.out (by repeat (first | (with_reducible first | exact HB.out | apply below_alloc | apply pw_below_drewN | apply below_drew1) | exact HB.out)))⟩); rintro e w55 ⟨rfl, hb⟩; have n0_ := Aside0.mk (Kd.R_below (by (with_reducible repeat (first | apply Kd.R_alloc | apply Kd.R_drewN | apply Kd.R_drew)); exact HO_15.out) hb); have n1_ := Aside0.mk (below_step (by repeat (first | (with_reducible first | exact HB.out | apply below_alloc | apply pw_below_drewN | apply below_drew1) | exact HB.out)) hb); clear HO_15; clear HB; have HO_15 := n0_; have HB := n1_; clear n0_ n1_; (try clear hb); (try clear hb2); (try clear hk); (try clear hi)))
                     go_ret
                     exact ⟨by first | rfl | (simp [errW_none, errW_some] <;> rfl) | (simp [*, errW_none, errW_some] <;> rfl), by repeat (first | (with_reducible first | exact HB.out | apply below_alloc | apply pw_below_drewN | apply below_drew1) | exact HB.out)⟩
                    ·rw [if_neg c52] at H
                     have c52b0 : ((t343.length : Int) == 0) = false := beq_eq_false_iff_ne.mpr c52
                     have c52b1 : ((t343.length : Int) != 0) = true := bne_iff_ne.mpr c52
                     have c52b2 : ¬ (t343 = []) := fun h_ => c52 (by rw [h_]; rfl)
                     exact absurd ((Option.some.inj H).trans hr_) (by decide)
                   ·rw [if_neg c51] at H
                    have c51b0 : (t344 == (wrap64 (x13_3 + 1))) = false := beq_eq_false_iff_ne.mpr c51
                    have c51b1 : (t344 != (wrap64 (x13_3 + 1))) = true := bne_iff_ne.mpr c51
                    exact absurd ((Option.some.inj H).trans hr_) (by decide)
                  ·rw [if_neg c50] at H
                   have c50b0 : (t345 == 3) = false := beq_eq_false_iff_ne.mpr c50
                   have c50b1 : (t345 != 3) = true := bne_iff_ne.mpr c50
                   exact absurd ((Option.some.inj H).trans hr_) (by decide)
              ·rw [if_neg c33] at H
               exact absurd H (by simp)
             ·rw [if_neg c32] at H
              exact absurd H (by simp)
     ·replace c12 := Bool.eq_false_iff.mpr c12
      subst c12
      have H1 : (if t332.toList = ([] : List UInt8) then (if t333 = 2 then ((lockkeeperlaw24_awake.f k1).bind fun t334 => (some t334)) else (some false)) else (some false)) = some r := by rw [if_neg (show ¬ (false = true) by decide)] at H; exact H
      clear H
      have H := H1
      clear H1
      by_cases c57 : t332.toList = ([] : List UInt8)
      ·rw [if_pos c57] at H
       have c57b0 : (t332.toList == ([] : List UInt8)) = true := beq_iff_eq.mpr c57
       have c57b1 : (t332.toList != ([] : List UInt8)) = false := bne_eq_false_iff_eq.mpr c57
       clear c57
       by_cases c58 : t333 = 2
       ·rw [if_pos c58] at H
        have c58b0 : (t333 == 2) = true := beq_iff_eq.mpr c58
        have c58b1 : (t333 != 2) = false := bne_eq_false_iff_eq.mpr c58
        clear c58
        replace H := Option.bind_eq_some_iff.mp H
        obtain ⟨t334, A590, H⟩ := H
        replace H : (some t334) = some r := H
        have A59 := Aside0.mk A590
        clear A590
        clear hr_
        obtain rfl := Option.some.inj H
        go_wp2_with (first | ((with_reducible refine gate_callee (f := 24) rfl ?_); refine goesL_ (some 38) rfl rfl Tryd.func24 (by kernel_rfl) rfl #[.slice A0 l0.length c0] rfl (by (try simp only [List.map_toArray, List.map_cons, List.map_nil]); first | done | rfl | (simp only [List.length_drop, List.length_take]; rfl)) ?_; (with_reducible refine (note_Lines.calls k1 _ _ l0 t332 t333 _ ?side1 ?side2 ?side3 A11.out).mono ?_); (case side1 => repeat (first | exact (Kd.C_below HR0.out HB.out) | (with_reducible refine Kd.C_alloc ?_ _) | (with_reducible refine Kd.C_drewN ?_ _) | (with_reducible refine Kd.C_drew ?_))); (case side2 => exact HC0.out); (case side3 => exact ⟨by repeat (first | (with_reducible exact hM_.out) | (with_reducible exact LaidW.below hM_.out HB.out) | (with_reducible refine LaidW.alloc ?_ _) | (with_reducible refine LaidW.drewN ?_ _) | (with_reducible refine LaidW.drew ?_) | exact LaidW.below hM_.out (by repeat (first | (with_reducible first | exact HB.out | apply below_alloc | apply pw_below_drewN | apply below_drew1) | exact HB.out)))⟩); rintro e w60 ⟨rfl, hb⟩; refine ⟨_, rfl, ?_⟩; have n0_ := Aside0.mk (below_step (by repeat (first | (with_reducible first | exact HB.out | apply below_alloc | apply pw_below_drewN | apply below_drew1) | exact HB.out)) hb); clear HB; have HB := n0_; clear n0_; (try clear hb); (try clear hb2); (try clear hk); (try clear hi)) | (go_at_call 10; (with_reducible refine (lockkeeperlaw24_awake.calls k1  t334 _ ?side1 A59.out).mono ?_); (case side1 => exact ⟨by repeat (first | (with_reducible exact hM_.out) | (with_reducible exact LaidW.below hM_.out HB.out) | (with_reducible refine LaidW.alloc ?_ _) | (with_reducible refine LaidW.drewN ?_ _) | (with_reducible refine LaidW.drew ?_) | exact LaidW.below hM_.out (by repeat (first | (with_reducible first | exact HB.out | apply below_alloc | apply pw_below_drewN | apply below_drew1) | exact HB.out)))⟩); rintro e w61 ⟨rfl, hb⟩; have n0_ := Aside0.mk (below_step (by repeat (first | (with_reducible first | exact HB.out | apply below_alloc | apply pw_below_drewN | apply below_drew1) | exact HB.out)) hb); clear HB; have HB := n0_; clear n0_; (try clear hb); (try clear hb2); (try clear hk); (try clear hi)))
        go_ret
        exact ⟨by first | rfl | (simp [errW_none, errW_some] <;> rfl) | (simp [*, errW_none, errW_some] <;> rfl), by repeat (first | (with_reducible first | exact HB.out | apply below_alloc | apply pw_below_drewN | apply below_drew1) | exact HB.out)⟩
       ·rw [if_neg c58] at H
        have c58b0 : (t333 == 2) = false := beq_eq_false_iff_ne.mpr c58
        have c58b1 : (t333 != 2) = true := bne_iff_ne.mpr c58
        exact absurd ((Option.some.inj H).trans hr_) (by decide)
      ·rw [if_neg c57] at H
       have c57b0 : (t332.toList == ([] : List UInt8)) = false := beq_eq_false_iff_ne.mpr c57
       have c57b1 : (t332.toList != ([] : List UInt8)) = true := bne_iff_ne.mpr c57
       exact absurd ((Option.some.inj H).trans hr_) (by decide)
end Go.Proofs.YtpkmhepoeefgkaaDoor.Pr
