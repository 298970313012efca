-- Made by a program of this session (wip/xp/xp.py), over the print's words.
import Derived.Test.YtpkmhepoeefgkaaDoorPr0
import Derived.Test.YtpkmhepoeefgkaaDoorPr1
import Derived.Test.YtpkmhepoeefgkaaDoorPr2
import Derived.Test.YtpkmhepoeefgkaaDoorPr3
import Derived.Test.YtpkmhepoeefgkaaDoorPr4
import Derived.Test.YtpkmhepoeefgkaaDoorG5
import Derived.Test.YtpkmhepoeefgkaaDoorG9
namespace Go.Proofs.YtpkmhepoeefgkaaDoor.Pr
open Go.RowKit Go.Proofs.YtpkmhepoeefgkaaDoorW.PrintWords Go.Proofs.YtpkmhepoeefgkaaDoorW.PrintLast Go.Proofs.YtpkmhepoeefgkaaDoorW.PrintMore
attribute [local go_sem] max2_int min2_int max_two min_two max_three min_three max_four min_four   -- for this text's walks alone
set_option linter.unusedVariables false
set_option linter.unusedSimpArgs false

attribute [local go_sem high] eqA24
/-! ### lockkeeperlaw24_NoteBack: function 3 -/
def lockkeeperlaw24_NoteBack.j0 : Nat → Int → Int → ByteArray → Bool → Int → Int → Int → Int → Int → Int → Int → Option (Bool)
 | 0, _, _, _, _, _, _, _, _, _, _, _ => none
 | k + 1, x1, x2, x7, x40, x160000, x160001, x160002, x160003, x160004, x160005, x160006 => if x40 = true then (some false) else ((lockkeeperlaw0_Low.f x1 (wrap64 ((x7.size : Int) + 1))).bind fun t172 => (if 0 ≤ t172 then (if t172 ≤ (x7.size : Int) then ((some (([x2] : List Int) : List Int)).bind fun y173 => (if (x7.extract 0 (t172 : Int).toNat).size + (strOfNums y173).size ≤ 9223372036854775807 then (if ((x7.extract 0 (t172 : Int).toNat) ++ (strOfNums y173)).size + (x7.extract (t172 : Int).toNat x7.size).size ≤ 9223372036854775807 then ((note_Read.f k (((x7.extract 0 (t172 : Int).toNat) ++ (strOfNums y173)) ++ (x7.extract (t172 : Int).toNat x7.size))).bind fun bt176 => (if bt176.2.2.2.2.2.2.2 = 0 then (if (!(bt176.1 == x160000) || (!(bt176.2.1 == x160001) || (!(bt176.2.2.1 == x160002) || (!(bt176.2.2.2.1 == x160003) || (!(bt176.2.2.2.2.1 == x160004) || (!(bt176.2.2.2.2.2.1 == x160005) || (!(bt176.2.2.2.2.2.2.1 == x160006)))))))) = true then ((note_Show.f k bt176.1 bt176.2.1 bt176.2.2.1 bt176.2.2.2.1 bt176.2.2.2.2.1 bt176.2.2.2.2.2.1 bt176.2.2.2.2.2.2.1).bind fun t185 => (if t185.toList = (((x7.extract 0 (t172 : Int).toNat) ++ (strOfNums y173)) ++ (x7.extract (t172 : Int).toNat x7.size)).toList then ((lockkeeperlaw24_awake.f k).bind fun t186 => (some t186)) else (some false))) else (some false)) else ((lockkeeperlaw24_awake.f k).bind fun t187 => (some t187)))) else (none)) else (none))) else (none)) else (none)))
def lockkeeperlaw24_NoteBack.f (k : Nat) (a0_0 : Int) (a0_1 : Int) (a0_2 : Int) (a0_3 : Int) (a0_4 : Int) (a0_5 : Int) (a0_6 : Int) (a1 : Int) (a2 : Int) : Option (Bool) := (note_Show.f k a0_0 a0_1 a0_2 a0_3 a0_4 a0_5 a0_6).bind fun t160 => ((note_Check.f a0_0 a0_1 a0_2 a0_3 a0_4 a0_5 a0_6).bind fun t161 => (if t161 = true then ((note_Read.f k t160).bind fun bt163 => (if bt163.2.2.2.2.2.2.2 = 0 then (if (!(bt163.1 == a0_0) || (!(bt163.2.1 == a0_1) || (!(bt163.2.2.1 == a0_2) || (!(bt163.2.2.2.1 == a0_3) || (!(bt163.2.2.2.2.1 == a0_4) || (!(bt163.2.2.2.2.2.1 == a0_5) || (!(bt163.2.2.2.2.2.2.1 == a0_6)))))))) = true then (lockkeeperlaw24_NoteBack.j0 k a1 a2 t160 true a0_0 a0_1 a0_2 a0_3 a0_4 a0_5 a0_6) else (lockkeeperlaw24_NoteBack.j0 k a1 a2 t160 (decide ((t160.size : Int) < 1)) a0_0 a0_1 a0_2 a0_3 a0_4 a0_5 a0_6)) else (lockkeeperlaw24_NoteBack.j0 k a1 a2 t160 true a0_0 a0_1 a0_2 a0_3 a0_4 a0_5 a0_6))) else (if t160.toList = ([] : List UInt8) then ((lockkeeperlaw24_awake.f k).bind fun t162 => (some t162)) else (some false))))
theorem lockkeeperlaw24_NoteBack.mono_l : ∀ k, (∀ y0 y1 y2 y3 y4 y5 y6 y7 y8 y9 y10, LeO (lockkeeperlaw24_NoteBack.j0 k y0 y1 y2 y3 y4 y5 y6 y7 y8 y9 y10) (lockkeeperlaw24_NoteBack.j0 (k + 1) y0 y1 y2 y3 y4 y5 y6 y7 y8 y9 y10))
 | 0 => fun _ _ _ _ _ _ _ _ _ _ _ r h => by simp [lockkeeperlaw24_NoteBack.j0] at h
 | k + 1 => by
  have ih0 := lockkeeperlaw24_NoteBack.mono_l k
  ·intro y0 y1 y2 y3 y4 y5 y6 y7 y8 y9 y10
   unfold lockkeeperlaw24_NoteBack.j0
   repeat' first
   | (with_reducible exact ih0 _ _ _ _ _ _ _ _ _ _ _)
   | (with_reducible exact lockkeeperlaw24_awake.mono _)
   | (with_reducible exact note_Read.mono _ _)
   | (with_reducible exact note_Show.mono _ _ _ _ _ _ _ _)
   | (with_reducible exact LeO.refl _)
   | (with_reducible exact LeO.none _)
   | (with_reducible refine LeO.ite ?_ ?_)
   | (with_reducible refine LeO.bind ?_ (fun _ => ?_))
   | exact ih0 _ _ _ _ _ _ _ _ _ _ _
   | exact lockkeeperlaw24_awake.mono _
   | exact note_Read.mono _ _
   | exact note_Show.mono _ _ _ _ _ _ _ _
   | exact LeO.none _
   | refine LeO.ite ?_ ?_
   | refine LeO.bind ?_ (fun _ => ?_)
theorem lockkeeperlaw24_NoteBack.mono : ∀ a0 a1 a2 a3 a4 a5 a6 a7 a8 k, LeO (lockkeeperlaw24_NoteBack.f k a0 a1 a2 a3 a4 a5 a6 a7 a8) (lockkeeperlaw24_NoteBack.f (k + 1) a0 a1 a2 a3 a4 a5 a6 a7 a8) := by
 intro a0 a1 a2 a3 a4 a5 a6 a7 a8 k
 have ih0 := lockkeeperlaw24_NoteBack.mono_l k
 unfold lockkeeperlaw24_NoteBack.f
 repeat' first
   | (with_reducible exact ih0 _ _ _ _ _ _ _ _ _ _ _)
   | (with_reducible exact lockkeeperlaw24_awake.mono _)
   | (with_reducible exact note_Read.mono _ _)
   | (with_reducible exact note_Show.mono _ _ _ _ _ _ _ _)
   | (with_reducible exact LeO.refl _)
   | (with_reducible exact LeO.none _)
   | (with_reducible refine LeO.ite ?_ ?_)
   | (with_reducible refine LeO.bind ?_ (fun _ => ?_))
   | exact ih0 _ _ _ _ _ _ _ _ _ _ _
   | exact lockkeeperlaw24_awake.mono _
   | exact note_Read.mono _ _
   | exact note_Show.mono _ _ _ _ _ _ _ _
   | exact LeO.none _
   | refine LeO.ite ?_ ?_
   | refine LeO.bind ?_ (fun _ => ?_)
def lockkeeperlaw24_NoteBack.T8 : Bool × List (List Nat × List Nat) := (true, [([], []), ([], []), ([0, 1], [0, 1]), ([], []), ([3], [3]), ([4], [4]), ([2, 5], [2, 5]), ([], []), ([], []), ([7, 8], [7, 8]), ([6, 9], [6, 9]), ([10, 0, 1, 2, 3, 4, 5, 6, 7, 8, 9, 10], [10])])
def lockkeeperlaw24_NoteBack.B8 : List Nat := [0, 0, 3, 0, 8, 24, 63, 0, 0, 384, 1023, 2047]
theorem lockkeeperlaw24_NoteBack.tab8 : rtab .any (opsOf Tryd.f3 8) = lockkeeperlaw24_NoteBack.T8 := by kernel_rfl
theorem lockkeeperlaw24_NoteBack.bits8 : waitsOk lockkeeperlaw24_NoteBack.T8.2 lockkeeperlaw24_NoteBack.B8 = true := by kernel_rfl
set_option maxHeartbeats 8000000 in
set_option maxRecDepth 100000 in
theorem lockkeeperlaw24_NoteBack.calls (k : Nat) (a0_0 : Int) (a0_1 : Int) (a0_2 : Int) (a0_3 : Int) (a0_4 : Int) (a0_5 : Int) (a0_6 : Int) (a1 : Int) (a2 : Int) (r : Bool) (w : World) (hM_ : Aside0 (LaidW w)) (hr_ : r = true) (h : lockkeeperlaw24_NoteBack.f k a0_0 a0_1 a0_2 a0_3 a0_4 a0_5 a0_6 a1 a2 = some r) :
  Calls Tryd.prog 3 #[.agg #[.int .i64 a0_0, .int .u64 a0_1, .int .i64 a0_2, .int .i64 a0_3, .int .i64 a0_4, .int .i64 a0_5, .int .i64 a0_6], .int .i64 a1, .int .u8 a2] w fun e w' => e = .returned (.bool r) ∧ Below w.heap.size w w' := by
 have hu24 := Tryd.underlying24
 have HB := Aside0.mk (Below.refl w.heap.size w)
 have H : ((note_Show.f k a0_0 a0_1 a0_2 a0_3 a0_4 a0_5 a0_6).bind fun t160 => ((note_Check.f a0_0 a0_1 a0_2 a0_3 a0_4 a0_5 a0_6).bind fun t161 => (if t161 = true then ((note_Read.f k t160).bind fun bt163 => (if bt163.2.2.2.2.2.2.2 = 0 then (if (!(bt163.1 == a0_0) || (!(bt163.2.1 == a0_1) || (!(bt163.2.2.1 == a0_2) || (!(bt163.2.2.2.1 == a0_3) || (!(bt163.2.2.2.2.1 == a0_4) || (!(bt163.2.2.2.2.2.1 == a0_5) || (!(bt163.2.2.2.2.2.2.1 == a0_6)))))))) = true then (lockkeeperlaw24_NoteBack.j0 k a1 a2 t160 true a0_0 a0_1 a0_2 a0_3 a0_4 a0_5 a0_6) else (lockkeeperlaw24_NoteBack.j0 k a1 a2 t160 (decide ((t160.size : Int) < 1)) a0_0 a0_1 a0_2 a0_3 a0_4 a0_5 a0_6)) else (lockkeeperlaw24_NoteBack.j0 k a1 a2 t160 true a0_0 a0_1 a0_2 a0_3 a0_4 a0_5 a0_6))) else (if t160.toList = ([] : List UInt8) then ((lockkeeperlaw24_awake.f k).bind fun t162 => (some t162)) else (some false))))) = some r := h
 clear h
 replace H := Option.bind_eq_some_iff.mp H
 obtain ⟨t160, A40, H⟩ := H
 replace H : ((note_Check.f a0_0 a0_1 a0_2 a0_3 a0_4 a0_5 a0_6).bind fun t161 => (if t161 = true then ((note_Read.f k t160).bind fun bt163 => (if bt163.2.2.2.2.2.2.2 = 0 then (if (!(bt163.1 == a0_0) || (!(bt163.2.1 == a0_1) || (!(bt163.2.2.1 == a0_2) || (!(bt163.2.2.2.1 == a0_3) || (!(bt163.2.2.2.2.1 == a0_4) || (!(bt163.2.2.2.2.2.1 == a0_5) || (!(bt163.2.2.2.2.2.2.1 == a0_6)))))))) = true then (lockkeeperlaw24_NoteBack.j0 k a1 a2 t160 true a0_0 a0_1 a0_2 a0_3 a0_4 a0_5 a0_6) else (lockkeeperlaw24_NoteBack.j0 k a1 a2 t160 (decide ((t160.size : Int) < 1)) a0_0 a0_1 a0_2 a0_3 a0_4 a0_5 a0_6)) else (lockkeeperlaw24_NoteBack.j0 k a1 a2 t160 true a0_0 a0_1 a0_2 a0_3 a0_4 a0_5 a0_6))) else (if t160.toList = ([] : List UInt8) then ((lockkeeperlaw24_awake.f k).bind fun t162 => (some t162)) else (some false)))) = some r := H
 have A4 := Aside0.mk A40
 clear A40
 replace H := Option.bind_eq_some_iff.mp H
 obtain ⟨t161, A50, H⟩ := H
 replace H : (if t161 = true then ((note_Read.f k t160).bind fun bt163 => (if bt163.2.2.2.2.2.2.2 = 0 then (if (!(bt163.1 == a0_0) || (!(bt163.2.1 == a0_1) || (!(bt163.2.2.1 == a0_2) || (!(bt163.2.2.2.1 == a0_3) || (!(bt163.2.2.2.2.1 == a0_4) || (!(bt163.2.2.2.2.2.1 == a0_5) || (!(bt163.2.2.2.2.2.2.1 == a0_6)))))))) = true then (lockkeeperlaw24_NoteBack.j0 k a1 a2 t160 true a0_0 a0_1 a0_2 a0_3 a0_4 a0_5 a0_6) else (lockkeeperlaw24_NoteBack.j0 k a1 a2 t160 (decide ((t160.size : Int) < 1)) a0_0 a0_1 a0_2 a0_3 a0_4 a0_5 a0_6)) else (lockkeeperlaw24_NoteBack.j0 k a1 a2 t160 true a0_0 a0_1 a0_2 a0_3 a0_4 a0_5 a0_6))) else (if t160.toList = ([] : List UInt8) then ((lockkeeperlaw24_awake.f k).bind fun t162 => (some t162)) else (some false))) = some r := H
 have A5 := Aside0.mk A50
 clear A50
 by_cases c6 : t161 = true
 ·subst c6
  have H1 : ((note_Read.f k t160).bind fun bt163 => (if bt163.2.2.2.2.2.2.2 = 0 then (if (!(bt163.1 == a0_0) || (!(bt163.2.1 == a0_1) || (!(bt163.2.2.1 == a0_2) || (!(bt163.2.2.2.1 == a0_3) || (!(bt163.2.2.2.2.1 == a0_4) || (!(bt163.2.2.2.2.2.1 == a0_5) || (!(bt163.2.2.2.2.2.2.1 == a0_6)))))))) = true then (lockkeeperlaw24_NoteBack.j0 k a1 a2 t160 true a0_0 a0_1 a0_2 a0_3 a0_4 a0_5 a0_6) else (lockkeeperlaw24_NoteBack.j0 k a1 a2 t160 (decide ((t160.size : Int) < 1)) a0_0 a0_1 a0_2 a0_3 a0_4 a0_5 a0_6)) else (lockkeeperlaw24_NoteBack.j0 k a1 a2 t160 true a0_0 a0_1 a0_2 a0_3 a0_4 a0_5 a0_6))) = some r := by rw [if_pos rfl] at H; exact H
  clear H
  have H := H1
  clear H1
  replace H := Option.bind_eq_some_iff.mp H
  obtain ⟨⟨t163, t164, t165, t166, t167, t168, t169, t170⟩, A70, H⟩ := H
  replace H : (if t170 = 0 then (if (!(t163 == a0_0) || (!(t164 == a0_1) || (!(t165 == a0_2) || (!(t166 == a0_3) || (!(t167 == a0_4) || (!(t168 == a0_5) || (!(t169 == a0_6)))))))) = true then (lockkeeperlaw24_NoteBack.j0 k a1 a2 t160 true a0_0 a0_1 a0_2 a0_3 a0_4 a0_5 a0_6) else (lockkeeperlaw24_NoteBack.j0 k a1 a2 t160 (decide ((t160.size : Int) < 1)) a0_0 a0_1 a0_2 a0_3 a0_4 a0_5 a0_6)) else (lockkeeperlaw24_NoteBack.j0 k a1 a2 t160 true a0_0 a0_1 a0_2 a0_3 a0_4 a0_5 a0_6)) = some r := H
  have A7 := Aside0.mk A70
  clear A70
  have HC8 := Aside0.mk H
  clear H
  go_enter Tryd.func3, Tryd.ntmps3
  go_upto_region 5 with (first | ((with_reducible refine gate_dst (N := 3) rfl ?_); (try (refine gate_guard (by rfl) ?_; dsimp only)); refine box_event ?hg (N := 3) ?hd (cs := #[.int .i64 a0_0, .int .u64 a0_1, .int .i64 a0_2, .int .i64 a0_3, .int .i64 a0_4, .int .i64 a0_5, .int .i64 a0_6]) (t := 24) ?hr ?_; (case hd => rfl); (case hg => rfl); (case hr => first | (go_simp; done) | (go_simp; rfl)); intro gb159 hg w9 hbox hb; have n0_ := Aside0.mk (below_step (by repeat (first | (with_reducible first | exact HB.out | apply below_alloc | apply pw_below_drewN | apply below_drew1) | exact HB.out)) hb); have n1_ := Aside0.mk (hbox); have n2_ := Aside0.mk ((by rw [hg]; exact (below_size (by repeat (first | (with_reducible first | exact HB.out | apply below_alloc | apply pw_below_drewN | apply below_drew1) | exact HB.out))) : w.heap.size ≤ gb159)); have n3_ := Aside0.mk ((by rw [hg]; exact (below_size (by repeat (first | (with_reducible first | exact HB.out | apply below_alloc | apply pw_below_drewN | apply below_drew1) | exact HB.out))) : w.heap.size ≤ gb159)); clear HB; have HB := n0_; have BK159 := n1_; have GW159 := n2_; have GE159 := n3_; clear n0_ n1_ n2_ n3_; clear hb hbox hg; have hcz10_0 : w9.cell? ⟨gb159, 0, none⟩ = some (.int .i64 a0_0) := (blk_cell BK159.out 0).trans rfl; have hcz10_1 : w9.cell? ⟨gb159, 1, none⟩ = some (.int .u64 a0_1) := (blk_cell BK159.out 1).trans rfl; have hcz10_2 : w9.cell? ⟨gb159, 2, none⟩ = some (.int .i64 a0_2) := (blk_cell BK159.out 2).trans rfl; have hcz10_3 : w9.cell? ⟨gb159, 3, none⟩ = some (.int .i64 a0_3) := (blk_cell BK159.out 3).trans rfl; have hcz10_4 : w9.cell? ⟨gb159, 4, none⟩ = some (.int .i64 a0_4) := (blk_cell BK159.out 4).trans rfl; have hcz10_5 : w9.cell? ⟨gb159, 5, none⟩ = some (.int .i64 a0_5) := (blk_cell BK159.out 5).trans rfl; have hcz10_6 : w9.cell? ⟨gb159, 6, none⟩ = some (.int .i64 a0_6) := (blk_cell BK159.out 6).trans rfl; have hfz10_0 := blk_frozen BK159.out 0; have hfz10_1 := blk_frozen BK159.out 1; have hfz10_2 := blk_frozen BK159.out 2; have hfz10_3 := blk_frozen BK159.out 3; have hfz10_4 := blk_frozen BK159.out 4; have hfz10_5 := blk_frozen BK159.out 5; have hfz10_6 := blk_frozen BK159.out 6) | ((with_reducible refine gate_callee (f := 8) rfl ?_); refine goesL_ (some 15) rfl rfl Tryd.func8 (by kernel_rfl) rfl #[.agg #[.int .i64 a0_0, .int .u64 a0_1, .int .i64 a0_2, .int .i64 a0_3, .int .i64 a0_4, .int .i64 a0_5, .int .i64 a0_6]] rfl (by (try simp only [List.map_toArray, List.map_cons, List.map_nil]); first | done | rfl | (simp only [List.length_drop, List.length_take]; rfl)) ?_; (with_reducible refine (note_Show.calls k a0_0 a0_1 a0_2 a0_3 a0_4 a0_5 a0_6 t160 _ ?side1 A4.out).mono ?_); (case side1 => exact ⟨by repeat (first | (with_reducible exact hM_.out) | (with_reducible exact LaidW.below hM_.out HB.out) | (with_reducible refine LaidW.alloc ?_ _) | (with_reducible refine LaidW.drewN ?_ _) | (with_reducible refine LaidW.drew ?_) | exact LaidW.below hM_.out (by repeat (first | (with_reducible first | exact HB.out | apply below_alloc | apply pw_below_drewN | apply below_drew1 | refine below_set ?_ GE159.out) | exact HB.out)))⟩); rintro e w11 ⟨rfl, hb⟩; refine ⟨_, rfl, ?_⟩; have n0_ := Aside0.mk (blk_below (g := gb159) (o := .cells #[.int .i64 a0_0, .int .u64 a0_1, .int .i64 a0_2, .int .i64 a0_3, .int .i64 a0_4, .int .i64 a0_5, .int .i64 a0_6] 24 (0, 0)) (by (with_reducible repeat (first | refine blk_drewN ?_ _ | refine blk_drew ?_ | refine blk_alloc ?_ _)); exact BK159.out) hb); have n1_ := Aside0.mk (below_step (by repeat (first | (with_reducible first | exact HB.out | apply below_alloc | apply pw_below_drewN | apply below_drew1 | refine below_set ?_ GE159.out) | exact HB.out)) hb); clear BK159; clear HB; have BK159 := n0_; have HB := n1_; clear n0_ n1_; (try clear hb); (try clear hb2); (try clear hk); (try clear hi); have hcz12_0 : w11.cell? ⟨gb159, 0, none⟩ = some (.int .i64 a0_0) := (blk_cell BK159.out 0).trans rfl; have hcz12_1 : w11.cell? ⟨gb159, 1, none⟩ = some (.int .u64 a0_1) := (blk_cell BK159.out 1).trans rfl; have hcz12_2 : w11.cell? ⟨gb159, 2, none⟩ = some (.int .i64 a0_2) := (blk_cell BK159.out 2).trans rfl; have hcz12_3 : w11.cell? ⟨gb159, 3, none⟩ = some (.int .i64 a0_3) := (blk_cell BK159.out 3).trans rfl; have hcz12_4 : w11.cell? ⟨gb159, 4, none⟩ = some (.int .i64 a0_4) := (blk_cell BK159.out 4).trans rfl; have hcz12_5 : w11.cell? ⟨gb159, 5, none⟩ = some (.int .i64 a0_5) := (blk_cell BK159.out 5).trans rfl; have hcz12_6 : w11.cell? ⟨gb159, 6, none⟩ = some (.int .i64 a0_6) := (blk_cell BK159.out 6).trans rfl; have hfz12_0 := blk_frozen BK159.out 0; have hfz12_1 := blk_frozen BK159.out 1; have hfz12_2 := blk_frozen BK159.out 2; have hfz12_3 := blk_frozen BK159.out 3; have hfz12_4 := blk_frozen BK159.out 4; have hfz12_5 := blk_frozen BK159.out 5; have hfz12_6 := blk_frozen BK159.out 6) | ((with_reducible refine gate_callee (f := 9) rfl ?_); refine goesL_ (some 17) rfl rfl Tryd.func9 (by kernel_rfl) rfl #[.agg #[.int .i64 a0_0, .int .u64 a0_1, .int .i64 a0_2, .int .i64 a0_3, .int .i64 a0_4, .int .i64 a0_5, .int .i64 a0_6]] rfl (by (try simp only [List.map_toArray, List.map_cons, List.map_nil]); first | done | rfl | (simp only [List.length_drop, List.length_take]; rfl)) ?_; (with_reducible refine (note_Check.calls a0_0 a0_1 a0_2 a0_3 a0_4 a0_5 a0_6 true _ A5.out).mono ?_); rintro e w13 ⟨rfl, hb⟩; refine ⟨_, rfl, ?_⟩; have n0_ := Aside0.mk (blk_below (g := gb159) (o := .cells #[.int .i64 a0_0, .int .u64 a0_1, .int .i64 a0_2, .int .i64 a0_3, .int .i64 a0_4, .int .i64 a0_5, .int .i64 a0_6] 24 (0, 0)) (by (with_reducible repeat (first | refine blk_drewN ?_ _ | refine blk_drew ?_ | refine blk_alloc ?_ _)); exact BK159.out) hb); have n1_ := Aside0.mk (below_step (by repeat (first | (with_reducible first | exact HB.out | apply below_alloc | apply pw_below_drewN | apply below_drew1 | refine below_set ?_ GE159.out) | exact HB.out)) hb); clear BK159; clear HB; have BK159 := n0_; have HB := n1_; clear n0_ n1_; (try clear hb); (try clear hb2); (try clear hk); (try clear hi)) | ((with_reducible refine gate_callee (f := 11) rfl ?_); refine goesL_ (some 26) rfl rfl Tryd.func11 (by kernel_rfl) rfl #[.string t160] rfl (by (try simp only [List.map_toArray, List.map_cons, List.map_nil]); first | done | rfl | (simp only [List.length_drop, List.length_take]; rfl)) ?_; (with_reducible refine (note_Read.calls k t160 t163 t164 t165 t166 t167 t168 t169 t170 _ ?side1 A7.out).mono ?_); (case side1 => exact ⟨by repeat (first | (with_reducible exact hM_.out) | (with_reducible exact LaidW.below hM_.out HB.out) | (with_reducible refine LaidW.alloc ?_ _) | (with_reducible refine LaidW.drewN ?_ _) | (with_reducible refine LaidW.drew ?_) | exact LaidW.below hM_.out (by repeat (first | (with_reducible first | exact HB.out | apply below_alloc | apply pw_below_drewN | apply below_drew1 | refine below_set ?_ GE159.out) | exact HB.out)))⟩); rintro e w14 ⟨rfl, hb⟩; refine ⟨_, rfl, ?_⟩; have n0_ := Aside0.mk (blk_below (g := gb159) (o := .cells #[.int .i64 a0_0, .int .u64 a0_1, .int .i64 a0_2, .int .i64 a0_3, .int .i64 a0_4, .int .i64 a0_5, .int .i64 a0_6] 24 (0, 0)) (by (with_reducible repeat (first | refine blk_drewN ?_ _ | refine blk_drew ?_ | refine blk_alloc ?_ _)); exact BK159.out) hb); have n1_ := Aside0.mk (below_step (by repeat (first | (with_reducible first | exact HB.out | apply below_alloc | apply pw_below_drewN | apply below_drew1 | refine below_set ?_ GE159.out) | exact HB.out)) hb); clear BK159; clear HB; have BK159 := n0_; have HB := n1_; clear n0_ n1_; (try clear hb); (try clear hb2); (try clear hk); (try clear hi)) | ((with_reducible refine gate_dst (N := 8) rfl ?_); (try (refine gate_guard (by rfl) ?_; dsimp only)); refine box_event ?hg (N := 8) ?hd (cs := #[.int .i64 0, .int .u64 0, .int .i64 0, .int .i64 0, .int .i64 0, .int .i64 0, .int .i64 0]) (t := 24) ?hr ?_; (case hd => rfl); (case hg => rfl); (case hr => first | (go_simp; done) | (go_simp; rfl)); intro gb171 hg w15 hbox hb; have n0_ := Aside0.mk (blk_below (g := gb159) (o := .cells #[.int .i64 a0_0, .int .u64 a0_1, .int .i64 a0_2, .int .i64 a0_3, .int .i64 a0_4, .int .i64 a0_5, .int .i64 a0_6] 24 (0, 0)) (by (with_reducible repeat (first | refine blk_drewN ?_ _ | refine blk_drew ?_ | refine blk_alloc ?_ _)); exact BK159.out) hb); have n1_ := Aside0.mk (below_step (by repeat (first | (with_reducible first | exact HB.out | apply below_alloc | apply pw_below_drewN | apply below_drew1 | refine below_set ?_ GE159.out) | exact HB.out)) hb); have n2_ := Aside0.mk (hbox); have n3_ := Aside0.mk ((by rw [hg]; exact (below_size (by repeat (first | (with_reducible first | exact HB.out | apply below_alloc | apply pw_below_drewN | apply below_drew1 | refine below_set ?_ GE159.out) | exact HB.out))) : w.heap.size ≤ gb171)); have n4_ := Aside0.mk ((by rw [hg]; exact (below_size (by repeat (first | (with_reducible first | exact HB.out | apply below_alloc | apply pw_below_drewN | apply below_drew1 | refine below_set ?_ GE159.out) | exact HB.out))) : w.heap.size ≤ gb171)); have n5_ := Aside0.mk ((by rw [hg]; exact Nat.ne_of_lt (blk_lt (g := gb159) (o := .cells #[.int .i64 a0_0, .int .u64 a0_1, .int .i64 a0_2, .int .i64 a0_3, .int .i64 a0_4, .int .i64 a0_5, .int .i64 a0_6] 24 (0, 0)) (by (with_reducible repeat (first | refine blk_drewN ?_ _ | refine blk_drew ?_ | refine blk_alloc ?_ _)); exact BK159.out)) : gb159 ≠ gb171)); have n6_ := Aside0.mk ((by rw [hg]; exact Nat.ne_of_gt (blk_lt (g := gb159) (o := .cells #[.int .i64 a0_0, .int .u64 a0_1, .int .i64 a0_2, .int .i64 a0_3, .int .i64 a0_4, .int .i64 a0_5, .int .i64 a0_6] 24 (0, 0)) (by (with_reducible repeat (first | refine blk_drewN ?_ _ | refine blk_drew ?_ | refine blk_alloc ?_ _)); exact BK159.out)) : gb171 ≠ gb159)); clear BK159; clear HB; have BK159 := n0_; have HB := n1_; have BK171 := n2_; have GW171 := n3_; have GE171 := n4_; have NB159_171 := n5_; have NB171_159 := n6_; clear n0_ n1_ n2_ n3_ n4_ n5_ n6_; clear hb hbox hg; have hnb16 := NB171_159.out; have hnc16 := NB159_171.out; have hcz17_0 : w15.cell? ⟨gb171, 0, none⟩ = some (.int .i64 0) := (blk_cell BK171.out 0).trans rfl; have hcz17_1 : w15.cell? ⟨gb171, 1, none⟩ = some (.int .u64 0) := (blk_cell BK171.out 1).trans rfl; have hcz17_2 : w15.cell? ⟨gb171, 2, none⟩ = some (.int .i64 0) := (blk_cell BK171.out 2).trans rfl; have hcz17_3 : w15.cell? ⟨gb171, 3, none⟩ = some (.int .i64 0) := (blk_cell BK171.out 3).trans rfl; have hcz17_4 : w15.cell? ⟨gb171, 4, none⟩ = some (.int .i64 0) := (blk_cell BK171.out 4).trans rfl; have hcz17_5 : w15.cell? ⟨gb171, 5, none⟩ = some (.int .i64 0) := (blk_cell BK171.out 5).trans rfl; have hcz17_6 : w15.cell? ⟨gb171, 6, none⟩ = some (.int .i64 0) := (blk_cell BK171.out 6).trans rfl; have hfz17_0 := blk_frozen BK171.out 0; have hfz17_1 := blk_frozen BK171.out 1; have hfz17_2 := blk_frozen BK171.out 2; have hfz17_3 := blk_frozen BK171.out 3; have hfz17_4 := blk_frozen BK171.out 4; have hfz17_5 := blk_frozen BK171.out 5; have hfz17_6 := blk_frozen BK171.out 6))
  (try simp only [Act.put, List.setIfInBounds_toArray, List.set_cons_zero, List.set_cons_succ])
  go_cut [40] (fun v40 wc => ∃ (kq : Nat) (x40_7 : Bool), v40 = .bool x40_7 ∧ Aside0 (lockkeeperlaw24_NoteBack.j0 kq a1 a2 t160 x40_7 a0_0 a0_1 a0_2 a0_3 a0_4 a0_5 a0_6 = some r) ∧ Aside0 (kq ≤ k) ∧ Aside0 (wc.heap[gb159]? = some (.cells #[.int .i64 a0_0, .int .u64 a0_1, .int .i64 a0_2, .int .i64 a0_3, .int .i64 a0_4, .int .i64 a0_5, .int .i64 a0_6] 24 (0, 0))) ∧ Aside0 (wc.heap[gb171]? = some (.cells #[.int .i64 t163, .int .u64 t164, .int .i64 t165, .int .i64 t166, .int .i64 t167, .int .i64 t168, .int .i64 t169] 24 (0, 0))) ∧ Aside0 (Below w.heap.size w wc))
  case first =>
   have H := HC8.out
   clear HC8
   by_cases c18 : t170 = 0
   ·rw [if_pos c18] at H
    have c18b0 : (t170 == 0) = true := beq_iff_eq.mpr c18
    have c18b1 : (t170 != 0) = false := bne_eq_false_iff_eq.mpr c18
    clear c18
    (first | rw [c18b0] | (simp only [i64_w, i32_w]; rw [c18b0]) | skip)
    by_cases c19 : (!(t163 == a0_0) || (!(t164 == a0_1) || (!(t165 == a0_2) || (!(t166 == a0_3) || (!(t167 == a0_4) || (!(t168 == a0_5) || (!(t169 == a0_6)))))))) = true
    ·rw [if_pos c19] at H
     have c19b0 : (!(t163 == a0_0) || (!(t164 == a0_1) || (!(t165 == a0_2) || (!(t166 == a0_3) || (!(t167 == a0_4) || (!(t168 == a0_5) || (!(t169 == a0_6)))))))) = true := c19
     clear c19
     have H' := Aside0.mk H
     clear H
     have hnb20 := NB171_159.out
     have hnc20 := NB159_171.out
     have hcz21_0 : w15.cell? ⟨gb171, 0, none⟩ = some (.int .i64 0) := (blk_cell BK171.out 0).trans rfl
     have hcz21_1 : w15.cell? ⟨gb171, 1, none⟩ = some (.int .u64 0) := (blk_cell BK171.out 1).trans rfl
     have hcz21_2 : w15.cell? ⟨gb171, 2, none⟩ = some (.int .i64 0) := (blk_cell BK171.out 2).trans rfl
     have hcz21_3 : w15.cell? ⟨gb171, 3, none⟩ = some (.int .i64 0) := (blk_cell BK171.out 3).trans rfl
     have hcz21_4 : w15.cell? ⟨gb171, 4, none⟩ = some (.int .i64 0) := (blk_cell BK171.out 4).trans rfl
     have hcz21_5 : w15.cell? ⟨gb171, 5, none⟩ = some (.int .i64 0) := (blk_cell BK171.out 5).trans rfl
     have hcz21_6 : w15.cell? ⟨gb171, 6, none⟩ = some (.int .i64 0) := (blk_cell BK171.out 6).trans rfl
     have hfz21_0 := blk_frozen BK171.out 0
     have hfz21_1 := blk_frozen BK171.out 1
     have hfz21_2 := blk_frozen BK171.out 2
     have hfz21_3 := blk_frozen BK171.out 3
     have hfz21_4 := blk_frozen BK171.out 4
     have hfz21_5 := blk_frozen BK171.out 5
     have hfz21_6 := blk_frozen BK171.out 6
     have hcz22_0 : w15.cell? ⟨gb159, 0, none⟩ = some (.int .i64 a0_0) := (blk_cell BK159.out 0).trans rfl
     have hcz22_1 : w15.cell? ⟨gb159, 1, none⟩ = some (.int .u64 a0_1) := (blk_cell BK159.out 1).trans rfl
     have hcz22_2 : w15.cell? ⟨gb159, 2, none⟩ = some (.int .i64 a0_2) := (blk_cell BK159.out 2).trans rfl
     have hcz22_3 : w15.cell? ⟨gb159, 3, none⟩ = some (.int .i64 a0_3) := (blk_cell BK159.out 3).trans rfl
     have hcz22_4 : w15.cell? ⟨gb159, 4, none⟩ = some (.int .i64 a0_4) := (blk_cell BK159.out 4).trans rfl
     have hcz22_5 : w15.cell? ⟨gb159, 5, none⟩ = some (.int .i64 a0_5) := (blk_cell BK159.out 5).trans rfl
     have hcz22_6 : w15.cell? ⟨gb159, 6, none⟩ = some (.int .i64 a0_6) := (blk_cell BK159.out 6).trans rfl
     have hfz22_0 := blk_frozen BK159.out 0
     have hfz22_1 := blk_frozen BK159.out 1
     have hfz22_2 := blk_frozen BK159.out 2
     have hfz22_3 := blk_frozen BK159.out 3
     have hfz22_4 := blk_frozen BK159.out 4
     have hfz22_5 := blk_frozen BK159.out 5
     have hfz22_6 := blk_frozen BK159.out 6
     go_wp2
     go_meet
     case rel => exact ⟨_, (true), (by first | rfl | (simp; done) | (simp [*]; done)), H', ⟨by first | omega | exact Nat.le_refl _⟩, ⟨by (with_reducible repeat (first | refine blk_drewN ?_ _ | refine blk_drew ?_ | refine blk_alloc ?_ _)); refine blk_far ?_ NB159_171.out _; (with_reducible repeat (first | refine blk_drewN ?_ _ | refine blk_drew ?_ | refine blk_alloc ?_ _)); refine blk_far ?_ NB159_171.out _; (with_reducible repeat (first | refine blk_drewN ?_ _ | refine blk_drew ?_ | refine blk_alloc ?_ _)); refine blk_far ?_ NB159_171.out _; (with_reducible repeat (first | refine blk_drewN ?_ _ | refine blk_drew ?_ | refine blk_alloc ?_ _)); refine blk_far ?_ NB159_171.out _; (with_reducible repeat (first | refine blk_drewN ?_ _ | refine blk_drew ?_ | refine blk_alloc ?_ _)); refine blk_far ?_ NB159_171.out _; (with_reducible repeat (first | refine blk_drewN ?_ _ | refine blk_drew ?_ | refine blk_alloc ?_ _)); refine blk_far ?_ NB159_171.out _; (with_reducible repeat (first | refine blk_drewN ?_ _ | refine blk_drew ?_ | refine blk_alloc ?_ _)); refine blk_far ?_ NB159_171.out _; (with_reducible repeat (first | refine blk_drewN ?_ _ | refine blk_drew ?_ | refine blk_alloc ?_ _)); exact BK159.out⟩, ⟨by (with_reducible repeat (first | refine blk_drewN ?_ _ | refine blk_drew ?_ | refine blk_alloc ?_ _)); refine blk_put (cs := #[.int .i64 t163, .int .u64 t164, .int .i64 t165, .int .i64 t166, .int .i64 t167, .int .i64 t168, .int .i64 0]) ?_ 6 _ rfl; (with_reducible repeat (first | refine blk_drewN ?_ _ | refine blk_drew ?_ | refine blk_alloc ?_ _)); refine blk_put (cs := #[.int .i64 t163, .int .u64 t164, .int .i64 t165, .int .i64 t166, .int .i64 t167, .int .i64 0, .int .i64 0]) ?_ 5 _ rfl; (with_reducible repeat (first | refine blk_drewN ?_ _ | refine blk_drew ?_ | refine blk_alloc ?_ _)); refine blk_put (cs := #[.int .i64 t163, .int .u64 t164, .int .i64 t165, .int .i64 t166, .int .i64 0, .int .i64 0, .int .i64 0]) ?_ 4 _ rfl; (with_reducible repeat (first | refine blk_drewN ?_ _ | refine blk_drew ?_ | refine blk_alloc ?_ _)); refine blk_put (cs := #[.int .i64 t163, .int .u64 t164, .int .i64 t165, .int .i64 0, .int .i64 0, .int .i64 0, .int .i64 0]) ?_ 3 _ rfl; (with_reducible repeat (first | refine blk_drewN ?_ _ | refine blk_drew ?_ | refine blk_alloc ?_ _)); refine blk_put (cs := #[.int .i64 t163, .int .u64 t164, .int .i64 0, .int .i64 0, .int .i64 0, .int .i64 0, .int .i64 0]) ?_ 2 _ rfl; (with_reducible repeat (first | refine blk_drewN ?_ _ | refine blk_drew ?_ | refine blk_alloc ?_ _)); refine blk_put (cs := #[.int .i64 t163, .int .u64 0, .int .i64 0, .int .i64 0, .int .i64 0, .int .i64 0, .int .i64 0]) ?_ 1 _ rfl; (with_reducible repeat (first | refine blk_drewN ?_ _ | refine blk_drew ?_ | refine blk_alloc ?_ _)); refine blk_put (cs := #[.int .i64 0, .int .u64 0, .int .i64 0, .int .i64 0, .int .i64 0, .int .i64 0, .int .i64 0]) ?_ 0 _ rfl; (with_reducible repeat (first | refine blk_drewN ?_ _ | refine blk_drew ?_ | refine blk_alloc ?_ _)); exact BK171.out⟩, ⟨by repeat (first | (with_reducible first | exact HB.out | apply below_alloc | apply pw_below_drewN | apply below_drew1 | refine below_set ?_ GE159.out | refine below_set ?_ GE171.out) | exact HB.out)⟩⟩
    ·rw [if_neg c19] at H
     have c19b0 : (!(t163 == a0_0) || (!(t164 == a0_1) || (!(t165 == a0_2) || (!(t166 == a0_3) || (!(t167 == a0_4) || (!(t168 == a0_5) || (!(t169 == a0_6)))))))) = false := by simpa using c19
     clear c19
     have H' := Aside0.mk H
     clear H
     have hnb23 := NB171_159.out
     have hnc23 := NB159_171.out
     have hcz24_0 : w15.cell? ⟨gb171, 0, none⟩ = some (.int .i64 0) := (blk_cell BK171.out 0).trans rfl
     have hcz24_1 : w15.cell? ⟨gb171, 1, none⟩ = some (.int .u64 0) := (blk_cell BK171.out 1).trans rfl
     have hcz24_2 : w15.cell? ⟨gb171, 2, none⟩ = some (.int .i64 0) := (blk_cell BK171.out 2).trans rfl
     have hcz24_3 : w15.cell? ⟨gb171, 3, none⟩ = some (.int .i64 0) := (blk_cell BK171.out 3).trans rfl
     have hcz24_4 : w15.cell? ⟨gb171, 4, none⟩ = some (.int .i64 0) := (blk_cell BK171.out 4).trans rfl
     have hcz24_5 : w15.cell? ⟨gb171, 5, none⟩ = some (.int .i64 0) := (blk_cell BK171.out 5).trans rfl
     have hcz24_6 : w15.cell? ⟨gb171, 6, none⟩ = some (.int .i64 0) := (blk_cell BK171.out 6).trans rfl
     have hfz24_0 := blk_frozen BK171.out 0
     have hfz24_1 := blk_frozen BK171.out 1
     have hfz24_2 := blk_frozen BK171.out 2
     have hfz24_3 := blk_frozen BK171.out 3
     have hfz24_4 := blk_frozen BK171.out 4
     have hfz24_5 := blk_frozen BK171.out 5
     have hfz24_6 := blk_frozen BK171.out 6
     have hcz25_0 : w15.cell? ⟨gb159, 0, none⟩ = some (.int .i64 a0_0) := (blk_cell BK159.out 0).trans rfl
     have hcz25_1 : w15.cell? ⟨gb159, 1, none⟩ = some (.int .u64 a0_1) := (blk_cell BK159.out 1).trans rfl
     have hcz25_2 : w15.cell? ⟨gb159, 2, none⟩ = some (.int .i64 a0_2) := (blk_cell BK159.out 2).trans rfl
     have hcz25_3 : w15.cell? ⟨gb159, 3, none⟩ = some (.int .i64 a0_3) := (blk_cell BK159.out 3).trans rfl
     have hcz25_4 : w15.cell? ⟨gb159, 4, none⟩ = some (.int .i64 a0_4) := (blk_cell BK159.out 4).trans rfl
     have hcz25_5 : w15.cell? ⟨gb159, 5, none⟩ = some (.int .i64 a0_5) := (blk_cell BK159.out 5).trans rfl
     have hcz25_6 : w15.cell? ⟨gb159, 6, none⟩ = some (.int .i64 a0_6) := (blk_cell BK159.out 6).trans rfl
     have hfz25_0 := blk_frozen BK159.out 0
     have hfz25_1 := blk_frozen BK159.out 1
     have hfz25_2 := blk_frozen BK159.out 2
     have hfz25_3 := blk_frozen BK159.out 3
     have hfz25_4 := blk_frozen BK159.out 4
     have hfz25_5 := blk_frozen BK159.out 5
     have hfz25_6 := blk_frozen BK159.out 6
     go_wp2
     go_meet
     case rel => exact ⟨_, (decide ((t160.size : Int) < 1)), (by first | rfl | (simp; done) | (simp [*]; done)), H', ⟨by first | omega | exact Nat.le_refl _⟩, ⟨by (with_reducible repeat (first | refine blk_drewN ?_ _ | refine blk_drew ?_ | refine blk_alloc ?_ _)); refine blk_far ?_ NB159_171.out _; (with_reducible repeat (first | refine blk_drewN ?_ _ | refine blk_drew ?_ | refine blk_alloc ?_ _)); refine blk_far ?_ NB159_171.out _; (with_reducible repeat (first | refine blk_drewN ?_ _ | refine blk_drew ?_ | refine blk_alloc ?_ _)); refine blk_far ?_ NB159_171.out _; (with_reducible repeat (first | refine blk_drewN ?_ _ | refine blk_drew ?_ | refine blk_alloc ?_ _)); refine blk_far ?_ NB159_171.out _; (with_reducible repeat (first | refine blk_drewN ?_ _ | refine blk_drew ?_ | refine blk_alloc ?_ _)); refine blk_far ?_ NB159_171.out _; (with_reducible repeat (first | refine blk_drewN ?_ _ | refine blk_drew ?_ | refine blk_alloc ?_ _)); refine blk_far ?_ NB159_171.out _; (with_reducible repeat (first | refine blk_drewN ?_ _ | refine blk_drew ?_ | refine blk_alloc ?_ _)); refine blk_far ?_ NB159_171.out _; (with_reducible repeat (first | refine blk_drewN ?_ _ | refine blk_drew ?_ | refine blk_alloc ?_ _)); exact BK159.out⟩, ⟨by (with_reducible repeat (first | refine blk_drewN ?_ _ | refine blk_drew ?_ | refine blk_alloc ?_ _)); refine blk_put (cs := #[.int .i64 t163, .int .u64 t164, .int .i64 t165, .int .i64 t166, .int .i64 t167, .int .i64 t168, .int .i64 0]) ?_ 6 _ rfl; (with_reducible repeat (first | refine blk_drewN ?_ _ | refine blk_drew ?_ | refine blk_alloc ?_ _)); refine blk_put (cs := #[.int .i64 t163, .int .u64 t164, .int .i64 t165, .int .i64 t166, .int .i64 t167, .int .i64 0, .int .i64 0]) ?_ 5 _ rfl; (with_reducible repeat (first | refine blk_drewN ?_ _ | refine blk_drew ?_ | refine blk_alloc ?_ _)); refine blk_put (cs := #[.int .i64 t163, .int .u64 t164, .int .i64 t165, .int .i64 t166, .int .i64 0, .int .i64 0, .int .i64 0]) ?_ 4 _ rfl; (with_reducible repeat (first | refine blk_drewN ?_ _ | refine blk_drew ?_ | refine blk_alloc ?_ _)); refine blk_put (cs := #[.int .i64 t163, .int .u64 t164, .int .i64 t165, .int .i64 0, .int .i64 0, .int .i64 0, .int .i64 0]) ?_ 3 _ rfl; (with_reducible repeat (first | refine blk_drewN ?_ _ | refine blk_drew ?_ | refine blk_alloc ?_ _)); refine blk_put (cs := #[.int .i64 t163, .int .u64 t164, .int .i64 0, .int .i64 0, .int .i64 0, .int .i64 0, .int .i64 0]) ?_ 2 _ rfl; (with_reducible repeat (first | refine blk_drewN ?_ _ | refine blk_drew ?_ | refine blk_alloc ?_ _)); refine blk_put (cs := #[.int .i64 t163, .int .u64 0, .int .i64 0, .int .i64 0, .int .i64 0, .int .i64 0, .int .i64 0]) ?_ 1 _ rfl; (with_reducible repeat (first | refine blk_drewN ?_ _ | refine blk_drew ?_ | refine blk_alloc ?_ _)); refine blk_put (cs := #[.int .i64 0, .int .u64 0, .int .i64 0, .int .i64 0, .int .i64 0, .int .i64 0, .int .i64 0]) ?_ 0 _ rfl; (with_reducible repeat (first | refine blk_drewN ?_ _ | refine blk_drew ?_ | refine blk_alloc ?_ _)); exact BK171.out⟩, ⟨by repeat (first | (with_reducible first | exact HB.out | apply below_alloc | apply pw_below_drewN | apply below_drew1 | refine below_set ?_ GE159.out | refine below_set ?_ GE171.out) | exact HB.out)⟩⟩
   ·rw [if_neg c18] at H
    have c18b0 : (t170 == 0) = false := beq_eq_false_iff_ne.mpr c18
    have c18b1 : (t170 != 0) = true := bne_iff_ne.mpr c18
    (first | rw [c18b0] | (simp only [i64_w, i32_w]; rw [c18b0]) | skip)
    have H' := Aside0.mk H
    clear H
    go_wp2
    go_meet
    case rel => exact ⟨_, (true), (by first | rfl | (simp; done) | (simp [*]; done)), H', ⟨by first | omega | exact Nat.le_refl _⟩, ⟨by (with_reducible repeat (first | refine blk_drewN ?_ _ | refine blk_drew ?_ | refine blk_alloc ?_ _)); refine blk_far ?_ NB159_171.out _; (with_reducible repeat (first | refine blk_drewN ?_ _ | refine blk_drew ?_ | refine blk_alloc ?_ _)); refine blk_far ?_ NB159_171.out _; (with_reducible repeat (first | refine blk_drewN ?_ _ | refine blk_drew ?_ | refine blk_alloc ?_ _)); refine blk_far ?_ NB159_171.out _; (with_reducible repeat (first | refine blk_drewN ?_ _ | refine blk_drew ?_ | refine blk_alloc ?_ _)); refine blk_far ?_ NB159_171.out _; (with_reducible repeat (first | refine blk_drewN ?_ _ | refine blk_drew ?_ | refine blk_alloc ?_ _)); refine blk_far ?_ NB159_171.out _; (with_reducible repeat (first | refine blk_drewN ?_ _ | refine blk_drew ?_ | refine blk_alloc ?_ _)); refine blk_far ?_ NB159_171.out _; (with_reducible repeat (first | refine blk_drewN ?_ _ | refine blk_drew ?_ | refine blk_alloc ?_ _)); refine blk_far ?_ NB159_171.out _; (with_reducible repeat (first | refine blk_drewN ?_ _ | refine blk_drew ?_ | refine blk_alloc ?_ _)); exact BK159.out⟩, ⟨by (with_reducible repeat (first | refine blk_drewN ?_ _ | refine blk_drew ?_ | refine blk_alloc ?_ _)); refine blk_put (cs := #[.int .i64 t163, .int .u64 t164, .int .i64 t165, .int .i64 t166, .int .i64 t167, .int .i64 t168, .int .i64 0]) ?_ 6 _ rfl; (with_reducible repeat (first | refine blk_drewN ?_ _ | refine blk_drew ?_ | refine blk_alloc ?_ _)); refine blk_put (cs := #[.int .i64 t163, .int .u64 t164, .int .i64 t165, .int .i64 t166, .int .i64 t167, .int .i64 0, .int .i64 0]) ?_ 5 _ rfl; (with_reducible repeat (first | refine blk_drewN ?_ _ | refine blk_drew ?_ | refine blk_alloc ?_ _)); refine blk_put (cs := #[.int .i64 t163, .int .u64 t164, .int .i64 t165, .int .i64 t166, .int .i64 0, .int .i64 0, .int .i64 0]) ?_ 4 _ rfl; (with_reducible repeat (first | refine blk_drewN ?_ _ | refine blk_drew ?_ | refine blk_alloc ?_ _)); refine blk_put (cs := #[.int .i64 t163, .int .u64 t164, .int .i64 t165, .int .i64 0, .int .i64 0, .int .i64 0, .int .i64 0]) ?_ 3 _ rfl; (with_reducible repeat (first | refine blk_drewN ?_ _ | refine blk_drew ?_ | refine blk_alloc ?_ _)); refine blk_put (cs := #[.int .i64 t163, .int .u64 t164, .int .i64 0, .int .i64 0, .int .i64 0, .int .i64 0, .int .i64 0]) ?_ 2 _ rfl; (with_reducible repeat (first | refine blk_drewN ?_ _ | refine blk_drew ?_ | refine blk_alloc ?_ _)); refine blk_put (cs := #[.int .i64 t163, .int .u64 0, .int .i64 0, .int .i64 0, .int .i64 0, .int .i64 0, .int .i64 0]) ?_ 1 _ rfl; (with_reducible repeat (first | refine blk_drewN ?_ _ | refine blk_drew ?_ | refine blk_alloc ?_ _)); refine blk_put (cs := #[.int .i64 0, .int .u64 0, .int .i64 0, .int .i64 0, .int .i64 0, .int .i64 0, .int .i64 0]) ?_ 0 _ rfl; (with_reducible repeat (first | refine blk_drewN ?_ _ | refine blk_drew ?_ | refine blk_alloc ?_ _)); exact BK171.out⟩, ⟨by repeat (first | (with_reducible first | exact HB.out | apply below_alloc | apply pw_below_drewN | apply below_drew1 | refine below_set ?_ GE159.out | refine below_set ?_ GE171.out) | exact HB.out)⟩⟩
  case rest =>
   clear HC8
   try clear c1
   try clear c2
   try clear p2
   try clear c3
   try clear c6
   try clear c8
   try clear c9
   try clear c11
   try clear c16
   try clear c18
   try clear c18b0
   try clear c18b1
   try clear c19
   try clear c19b0
   try clear c20
   try clear c23
   try clear hcz10_0
   try clear hcz10_1
   try clear hcz10_2
   try clear hcz10_3
   try clear hcz10_4
   try clear hcz10_5
   try clear hcz10_6
   try clear hcz12_0
   try clear hcz12_1
   try clear hcz12_2
   try clear hcz12_3
   try clear hcz12_4
   try clear hcz12_5
   try clear hcz12_6
   try clear hcz17_0
   try clear hcz17_1
   try clear hcz17_2
   try clear hcz17_3
   try clear hcz17_4
   try clear hcz17_5
   try clear hcz17_6
   try clear hcz21_0
   try clear hcz21_1
   try clear hcz21_2
   try clear hcz21_3
   try clear hcz21_4
   try clear hcz21_5
   try clear hcz21_6
   try clear hcz22_0
   try clear hcz22_1
   try clear hcz22_2
   try clear hcz22_3
   try clear hcz22_4
   try clear hcz22_5
   try clear hcz22_6
   try clear hcz24_0
   try clear hcz24_1
   try clear hcz24_2
   try clear hcz24_3
   try clear hcz24_4
   try clear hcz24_5
   try clear hcz24_6
   try clear hcz25_0
   try clear hcz25_1
   try clear hcz25_2
   try clear hcz25_3
   try clear hcz25_4
   try clear hcz25_5
   try clear hcz25_6
   try clear hfz10_0
   try clear hfz10_1
   try clear hfz10_2
   try clear hfz10_3
   try clear hfz10_4
   try clear hfz10_5
   try clear hfz10_6
   try clear hfz12_0
   try clear hfz12_1
   try clear hfz12_2
   try clear hfz12_3
   try clear hfz12_4
   try clear hfz12_5
   try clear hfz12_6
   try clear hfz17_0
   try clear hfz17_1
   try clear hfz17_2
   try clear hfz17_3
   try clear hfz17_4
   try clear hfz17_5
   try clear hfz17_6
   try clear hfz21_0
   try clear hfz21_1
   try clear hfz21_2
   try clear hfz21_3
   try clear hfz21_4
   try clear hfz21_5
   try clear hfz21_6
   try clear hfz22_0
   try clear hfz22_1
   try clear hfz22_2
   try clear hfz22_3
   try clear hfz22_4
   try clear hfz22_5
   try clear hfz22_6
   try clear hfz24_0
   try clear hfz24_1
   try clear hfz24_2
   try clear hfz24_3
   try clear hfz24_4
   try clear hfz24_5
   try clear hfz24_6
   try clear hfz25_0
   try clear hfz25_1
   try clear hfz25_2
   try clear hfz25_3
   try clear hfz25_4
   try clear hfz25_5
   try clear hfz25_6
   obtain ⟨kq, x40_7, rfl, HA, HJ7, BK159, BK171, HB⟩ := hcut
   cases kq with
   | zero => exact absurd HA.out (by simp [lockkeeperlaw24_NoteBack.j0])
   | succ kj7 =>
    have H := HA.out
    clear HA
    simp only [lockkeeperlaw24_NoteBack.j0] at H
    by_cases c26 : x40_7 = true
    ·subst c26
     have H1 : (some false) = some r := by rw [if_pos rfl] at H; exact H
     clear H
     have H := H1
     clear H1
     exact absurd ((Option.some.inj H).trans hr_) (by decide)
    ·replace c26 := Bool.eq_false_iff.mpr c26
     subst c26
     have H1 : ((lockkeeperlaw0_Low.f a1 (wrap64 ((t160.size : Int) + 1))).bind fun t172 => (if 0 ≤ t172 then (if t172 ≤ (t160.size : Int) then ((some (([a2] : List Int) : List Int)).bind fun y173 => (if (t160.extract 0 (t172 : Int).toNat).size + (strOfNums y173).size ≤ 9223372036854775807 then (if ((t160.extract 0 (t172 : Int).toNat) ++ (strOfNums y173)).size + (t160.extract (t172 : Int).toNat t160.size).size ≤ 9223372036854775807 then ((note_Read.f kj7 (((t160.extract 0 (t172 : Int).toNat) ++ (strOfNums y173)) ++ (t160.extract (t172 : Int).toNat t160.size))).bind fun bt176 => (if bt176.2.2.2.2.2.2.2 = 0 then (if (!(bt176.1 == a0_0) || (!(bt176.2.1 == a0_1) || (!(bt176.2.2.1 == a0_2) || (!(bt176.2.2.2.1 == a0_3) || (!(bt176.2.2.2.2.1 == a0_4) || (!(bt176.2.2.2.2.2.1 == a0_5) || (!(bt176.2.2.2.2.2.2.1 == a0_6)))))))) = true then ((note_Show.f kj7 bt176.1 bt176.2.1 bt176.2.2.1 bt176.2.2.2.1 bt176.2.2.2.2.1 bt176.2.2.2.2.2.1 bt176.2.2.2.2.2.2.1).bind fun t185 => (if t185.toList = (((t160.extract 0 (t172 : Int).toNat) ++ (strOfNums y173)) ++ (t160.extract (t172 : Int).toNat t160.size)).toList then ((lockkeeperlaw24_awake.f kj7).bind fun t186 => (some t186)) else (some false))) else (some false)) else ((lockkeeperlaw24_awake.f kj7).bind fun t187 => (some t187)))) else (none)) else (none))) else (none)) else (none))) = some r := by rw [if_neg (show ¬ (false = true) by decide)] at H; exact H
     clear H
     have H := H1
     clear H1
     replace H := Option.bind_eq_some_iff.mp H
     obtain ⟨t172, A270, H⟩ := H
     replace H : (if 0 ≤ t172 then (if t172 ≤ (t160.size : Int) then ((some (([a2] : List Int) : List Int)).bind fun y173 => (if (t160.extract 0 (t172 : Int).toNat).size + (strOfNums y173).size ≤ 9223372036854775807 then (if ((t160.extract 0 (t172 : Int).toNat) ++ (strOfNums y173)).size + (t160.extract (t172 : Int).toNat t160.size).size ≤ 9223372036854775807 then ((note_Read.f kj7 (((t160.extract 0 (t172 : Int).toNat) ++ (strOfNums y173)) ++ (t160.extract (t172 : Int).toNat t160.size))).bind fun bt176 => (if bt176.2.2.2.2.2.2.2 = 0 then (if (!(bt176.1 == a0_0) || (!(bt176.2.1 == a0_1) || (!(bt176.2.2.1 == a0_2) || (!(bt176.2.2.2.1 == a0_3) || (!(bt176.2.2.2.2.1 == a0_4) || (!(bt176.2.2.2.2.2.1 == a0_5) || (!(bt176.2.2.2.2.2.2.1 == a0_6)))))))) = true then ((note_Show.f kj7 bt176.1 bt176.2.1 bt176.2.2.1 bt176.2.2.2.1 bt176.2.2.2.2.1 bt176.2.2.2.2.2.1 bt176.2.2.2.2.2.2.1).bind fun t185 => (if t185.toList = (((t160.extract 0 (t172 : Int).toNat) ++ (strOfNums y173)) ++ (t160.extract (t172 : Int).toNat t160.size)).toList then ((lockkeeperlaw24_awake.f kj7).bind fun t186 => (some t186)) else (some false))) else (some false)) else ((lockkeeperlaw24_awake.f kj7).bind fun t187 => (some t187)))) else (none)) else (none))) else (none)) else (none)) = some r := H
     have A27 := Aside0.mk A270
     clear A270
     by_cases c28 : 0 ≤ t172
     ·rw [if_pos c28] at H
      have c28b0 := eq_true c28
      have c28b1 : decide (0 ≤ t172) = true := decide_eq_true c28
      clear c28
      by_cases c29 : t172 ≤ (t160.size : Int)
      ·rw [if_pos c29] at H
       have c29b0 := eq_true c29
       have c29b1 : decide (t172 ≤ (t160.size : Int)) = true := decide_eq_true c29
       clear c29
       obtain ⟨y173, hy173⟩ : ∃ y_ : List Int, y_ = (([a2] : List Int)) := ⟨_, rfl⟩
       replace H : (if (t160.extract 0 (t172 : Int).toNat).size + (strOfNums y173).size ≤ 9223372036854775807 then (if ((t160.extract 0 (t172 : Int).toNat) ++ (strOfNums y173)).size + (t160.extract (t172 : Int).toNat t160.size).size ≤ 9223372036854775807 then ((note_Read.f kj7 (((t160.extract 0 (t172 : Int).toNat) ++ (strOfNums y173)) ++ (t160.extract (t172 : Int).toNat t160.size))).bind fun bt176 => (if bt176.2.2.2.2.2.2.2 = 0 then (if (!(bt176.1 == a0_0) || (!(bt176.2.1 == a0_1) || (!(bt176.2.2.1 == a0_2) || (!(bt176.2.2.2.1 == a0_3) || (!(bt176.2.2.2.2.1 == a0_4) || (!(bt176.2.2.2.2.2.1 == a0_5) || (!(bt176.2.2.2.2.2.2.1 == a0_6)))))))) = true then ((note_Show.f kj7 bt176.1 bt176.2.1 bt176.2.2.1 bt176.2.2.2.1 bt176.2.2.2.2.1 bt176.2.2.2.2.2.1 bt176.2.2.2.2.2.2.1).bind fun t185 => (if t185.toList = (((t160.extract 0 (t172 : Int).toNat) ++ (strOfNums y173)) ++ (t160.extract (t172 : Int).toNat t160.size)).toList then ((lockkeeperlaw24_awake.f kj7).bind fun t186 => (some t186)) else (some false))) else (some false)) else ((lockkeeperlaw24_awake.f kj7).bind fun t187 => (some t187)))) else (none)) else (none)) = some r := by first | (rw [hy173]; with_reducible exact H) | (have H2_ := (Option.bind_some _ _).symm.trans H; rw [hy173]; with_reducible exact H2_) | (have H2_ := (Option.bind_some _ _).symm.trans H; with_reducible exact H2_) | with_reducible exact H | (rw [hy173]; exact H) | exact H
       have Ny173 := Aside0.mk hy173
       clear hy173
       by_cases c30 : (t160.extract 0 (t172 : Int).toNat).size + (strOfNums y173).size ≤ 9223372036854775807
       ·rw [if_pos c30] at H
        have c30b0 := eq_true c30
        have c30b1 : decide ((t160.extract 0 (t172 : Int).toNat).size + (strOfNums y173).size ≤ 9223372036854775807) = true := decide_eq_true c30
        try have c30b2 : (9223372036854775807 < (t160.extract 0 (t172 : Int).toNat).size + (strOfNums y173).size) = False := eq_false (Nat.not_lt.2 c30)
        try (have c30b7 := c30b2; simp (disch := omega) only [ByteArray.size_append, ByteArray.size_extract, Nat.sub_zero, Nat.min_self, Nat.min_eq_left] at c30b7)
        try (have c30b8 := c30b0; simp only [ByteArray.size_extract, Nat.min_self, Nat.sub_zero] at c30b8)
        try have c30b9 : (9223372036854775807 < (t172 : Int).toNat + (strOfNums y173).size) = False := eq_false (Nat.not_lt.2 (by have z_ := c30; have y_ : t172 ≤ (t160.size : Int) := of_decide_eq_true (by assumption); have x_ : 0 ≤ (t172 : Int) := of_decide_eq_true (by assumption); simp only [ByteArray.size_append, ByteArray.size_extract] at z_; omega))
        have c31b0 := eq_true (of_decide_eq_true (by first | (with_reducible assumption) | assumption) : 0 ≤ t172)
        have c32b0 := eq_true (of_decide_eq_true (by first | (with_reducible assumption) | assumption) : t172 ≤ (t160.size : Int))
        by_cases c33 : ((t160.extract 0 (t172 : Int).toNat) ++ (strOfNums y173)).size + (t160.extract (t172 : Int).toNat t160.size).size ≤ 9223372036854775807
        ·rw [if_pos c33] at H
         try (have c33b5 := c33; simp only [ByteArray.size_append, Int.natCast_add] at c33b5)
         have c33b0 := eq_true c33
         have c33b1 : decide (((t160.extract 0 (t172 : Int).toNat) ++ (strOfNums y173)).size + (t160.extract (t172 : Int).toNat t160.size).size ≤ 9223372036854775807) = true := decide_eq_true c33
         try have c33b2 : (9223372036854775807 < ((t160.extract 0 (t172 : Int).toNat) ++ (strOfNums y173)).size + (t160.extract (t172 : Int).toNat t160.size).size) = False := eq_false (Nat.not_lt.2 c33)
         try (have c33b7 := c33b2; simp (disch := omega) only [ByteArray.size_append, ByteArray.size_extract, Nat.sub_zero, Nat.min_self, Nat.min_eq_left] at c33b7)
         try (have c33b8 := c33b0; simp only [ByteArray.size_extract, Nat.min_self, Nat.sub_zero] at c33b8)
         try have c33b9 : (9223372036854775807 < (t172 : Int).toNat + (strOfNums y173).size + (t160.size - (t172 : Int).toNat)) = False := eq_false (Nat.not_lt.2 (by have z_ := c33; have y_ : t172 ≤ (t160.size : Int) := of_decide_eq_true (by assumption); have x_ : 0 ≤ (t172 : Int) := of_decide_eq_true (by assumption); simp only [ByteArray.size_append, ByteArray.size_extract] at z_; omega))
         try have c33b3 : (9223372036854775807 < (t160.extract 0 (t172 : Int).toNat).size + (strOfNums y173).size + (t160.extract (t172 : Int).toNat t160.size).size) = False := eq_false (Nat.not_lt.2 (by have z_ := c33; simp only [ByteArray.size_append] at z_; first | exact z_ | simpa using z_))
         replace H := Option.bind_eq_some_iff.mp H
         obtain ⟨⟨t176, t177, t178, t179, t180, t181, t182, t183⟩, A340, H⟩ := H
         replace H : (if t183 = 0 then (if (!(t176 == a0_0) || (!(t177 == a0_1) || (!(t178 == a0_2) || (!(t179 == a0_3) || (!(t180 == a0_4) || (!(t181 == a0_5) || (!(t182 == a0_6)))))))) = true then ((note_Show.f kj7 t176 t177 t178 t179 t180 t181 t182).bind fun t185 => (if t185.toList = (((t160.extract 0 (t172 : Int).toNat) ++ (strOfNums y173)) ++ (t160.extract (t172 : Int).toNat t160.size)).toList then ((lockkeeperlaw24_awake.f kj7).bind fun t186 => (some t186)) else (some false))) else (some false)) else ((lockkeeperlaw24_awake.f kj7).bind fun t187 => (some t187))) = some r := H
         have A34 := Aside0.mk A340
         clear A340
         by_cases c35 : t183 = 0
         ·rw [if_pos c35] at H
          have c35b0 : (t183 == 0) = true := beq_iff_eq.mpr c35
          have c35b1 : (t183 != 0) = false := bne_eq_false_iff_eq.mpr c35
          clear c35
          by_cases c36 : (!(t176 == a0_0) || (!(t177 == a0_1) || (!(t178 == a0_2) || (!(t179 == a0_3) || (!(t180 == a0_4) || (!(t181 == a0_5) || (!(t182 == a0_6)))))))) = true
          ·rw [if_pos c36] at H
           have c36b0 : (!(t176 == a0_0) || (!(t177 == a0_1) || (!(t178 == a0_2) || (!(t179 == a0_3) || (!(t180 == a0_4) || (!(t181 == a0_5) || (!(t182 == a0_6)))))))) = true := c36
           clear c36
           replace H := Option.bind_eq_some_iff.mp H
           obtain ⟨t185, A370, H⟩ := H
           replace H : (if t185.toList = (((t160.extract 0 (t172 : Int).toNat) ++ (strOfNums y173)) ++ (t160.extract (t172 : Int).toNat t160.size)).toList then ((lockkeeperlaw24_awake.f kj7).bind fun t186 => (some t186)) else (some false)) = some r := H
           have A37 := Aside0.mk A370
           clear A370
           by_cases c38 : t185.toList = (((t160.extract 0 (t172 : Int).toNat) ++ (strOfNums y173)) ++ (t160.extract (t172 : Int).toNat t160.size)).toList
           ·rw [if_pos c38] at H
            try (have c38b5 := c38; simp only [ByteArray.size_append, Int.natCast_add] at c38b5)
            have c38b0 : (t185.toList == (((t160.extract 0 (t172 : Int).toNat) ++ (strOfNums y173)) ++ (t160.extract (t172 : Int).toNat t160.size)).toList) = true := beq_iff_eq.mpr c38
            have c38b1 : (t185.toList != (((t160.extract 0 (t172 : Int).toNat) ++ (strOfNums y173)) ++ (t160.extract (t172 : Int).toNat t160.size)).toList) = false := bne_eq_false_iff_eq.mpr c38
            clear c38
            replace H := Option.bind_eq_some_iff.mp H
            obtain ⟨t186, A390, H⟩ := H
            replace H : (some t186) = some r := H
            have A39 := Aside0.mk A390
            clear A390
            clear hr_
            obtain rfl := Option.some.inj H
            try go_wp2_with (first | ((with_reducible refine gate_callee (f := 12) rfl ?_); refine goesL_ (some 45) rfl rfl Tryd.func12 (by kernel_rfl) rfl #[.int .i64 a1, .int .i64 (wrap64 ((t160.size : Int) + 1))] rfl (by (try simp only [List.map_toArray, List.map_cons, List.map_nil]); first | done | rfl | (simp only [List.length_drop, List.length_take]; rfl)) ?_; (with_reducible refine (lockkeeperlaw0_Low.calls a1 (wrap64 ((t160.size : Int) + 1)) t172 _ A27.out).mono ?_); rintro e w' ⟨rfl, ⟨nd, rfl⟩⟩; refine ⟨_, rfl, ?_⟩; (try (rw [drewN_self wc]; generalize hq_ : World.drewN wc _ = wc; have n0_ : Aside0 (wc.heap[gb159]? = some (.cells #[.int .i64 a0_0, .int .u64 a0_1, .int .i64 a0_2, .int .i64 a0_3, .int .i64 a0_4, .int .i64 a0_5, .int .i64 a0_6] 24 (0, 0))) := ⟨by rw [← hq_]; exact (by (with_reducible repeat (first | refine blk_drewN ?_ _ | refine blk_drew ?_ | refine blk_alloc ?_ _)); exact BK159.out)⟩; have n1_ : Aside0 (wc.heap[gb171]? = some (.cells #[.int .i64 t163, .int .u64 t164, .int .i64 t165, .int .i64 t166, .int .i64 t167, .int .i64 t168, .int .i64 t169] 24 (0, 0))) := ⟨by rw [← hq_]; exact (by (with_reducible repeat (first | refine blk_drewN ?_ _ | refine blk_drew ?_ | refine blk_alloc ?_ _)); exact BK171.out)⟩; have n2_ : Aside0 (Below w.heap.size w wc) := ⟨by rw [← hq_]; exact (by repeat (first | (with_reducible first | exact HB.out | apply below_alloc | apply pw_below_drewN | apply below_drew1 | refine below_set ?_ GE159.out | refine below_set ?_ GE171.out) | exact HB.out))⟩; clear BK159 BK171 HB hq_; have BK159 := n0_; have BK171 := n1_; have HB := n2_; clear n0_ n1_ n2_))))
            have n0_ := Aside0.mk (blk_drew BK159.out)
            have n1_ := Aside0.mk (blk_drew BK171.out)
            have n2_ := Aside0.mk (below_drew1 HB.out)
            clear BK159
            clear BK171
            clear HB
            have BK159 := n0_
            have BK171 := n1_
            have HB := n2_
            clear n0_ n1_ n2_
            refine start_ (n := 12) (S := fun w' => True) (ds := []) #[false, false, false, false, false, false, false, false, false, false, false, false] (by kernel_rfl) rfl rfl trivial (fun hHeld => ?_); refine with_tabW lockkeeperlaw24_NoteBack.tab8 lockkeeperlaw24_NoteBack.bits8 (fun HT_ HW_ => ?_)
            generalize wc.drew = w40 at BK159 BK171 HB hHeld ⊢
            refine pure_ (i := 0) (N := some 46) (v := ?_) (a' := ?_) #[true, false, false, false, false, false, false, false, false, false, false, false] rfl rfl (any_of HT_.out (by kernel_rfl)) (fun _ _ _ h => h) (Or.inl ⟨by rfl, ?_⟩) ?_ ?_
            rotate_left
            ·intro w'
             go_simp
             with_reducible rfl
            rotate_left
            ·simp only [Act.put, List.setIfInBounds_toArray, List.set_cons_zero, List.set_cons_succ, i64_w, i32_w]
             rfl
            refine pure_ (i := 1) (N := some 47) (v := ?_) (a' := ?_) #[true, true, false, false, false, false, false, false, false, false, false, false] rfl rfl (any_of HT_.out (by kernel_rfl)) (fun _ _ _ h => h) (Or.inl ⟨by rfl, ?_⟩) ?_ ?_
            rotate_left
            ·intro w'
             go_simp
             with_reducible rfl
            rotate_left
            ·simp only [Act.put, List.setIfInBounds_toArray, List.set_cons_zero, List.set_cons_succ, i64_w, i32_w]
             rfl
            refine pure_ (i := 2) (N := some 48) (v := ?_) (a' := ?_) #[true, true, true, false, false, false, false, false, false, false, false, false] rfl rfl (any_of HT_.out (by kernel_rfl)) (fun _ _ _ h => h) (Or.inl ⟨by rfl, ?_⟩) ?_ ?_
            rotate_left
            ·intro w'
             go_simp
             with_reducible rfl
            rotate_left
            ·simp only [Act.put, List.setIfInBounds_toArray, List.set_cons_zero, List.set_cons_succ, i64_w, i32_w]
             rfl
            refine pure_ (i := 3) (N := some 49) (v := ?_) (a' := ?_) #[true, true, true, true, false, false, false, false, false, false, false, false] rfl rfl (any_of HT_.out (by kernel_rfl)) (fun _ _ _ h => h) (Or.inl ⟨by rfl, ?_⟩) ?_ ?_
            rotate_left
            ·intro w'
             go_simp
             with_reducible rfl
            rotate_left
            ·simp only [Act.put, List.setIfInBounds_toArray, List.set_cons_zero, List.set_cons_succ, i64_w, i32_w]
             rfl
            refine pure_ (i := 7) (N := some 53) (v := ?_) (a' := ?_) #[true, true, true, true, false, false, false, true, false, false, false, false] rfl rfl (any_of HT_.out (by kernel_rfl)) (fun _ _ _ h => h) (Or.inl ⟨by rfl, ?_⟩) ?_ ?_
            rotate_left
            ·intro w'
             go_simp
             with_reducible rfl
            rotate_left
            ·simp only [Act.put, List.setIfInBounds_toArray, List.set_cons_zero, List.set_cons_succ, i64_w, i32_w]
             rfl
            refine pure_ (i := 8) (N := some 54) (v := ?_) (a' := ?_) #[true, true, true, true, false, false, false, true, true, false, false, false] rfl rfl (any_of HT_.out (by kernel_rfl)) (fun _ _ _ h => h) (Or.inl ⟨by rfl, ?_⟩) ?_ ?_
            rotate_left
            ·intro w'
             go_simp
             with_reducible rfl
            rotate_left
            ·simp only [Act.put, List.setIfInBounds_toArray, List.set_cons_zero, List.set_cons_succ, i64_w, i32_w]
             rfl
            refine pure_ (i := 9) (N := some 55) (v := ?_) (a' := ?_) #[true, true, true, true, false, false, false, true, true, true, false, false] rfl rfl (any_of HT_.out (by kernel_rfl)) (fun _ _ _ h => h) (Or.inl ⟨by rfl, ?_⟩) ?_ ?_
            rotate_left
            ·intro w'
             go_simp
             with_reducible rfl
            rotate_left
            ·simp only [Act.put, List.setIfInBounds_toArray, List.set_cons_zero, List.set_cons_succ, i64_w, i32_w]
             rfl
            refine one_ (i := 4) (N := some 50) #[true, true, true, true, true, false, false, true, true, true, false, false] rfl rfl (one_of HT_.out (by kernel_rfl)) (by decide) (fun K hK => ?_)
            refine Kd.R_lit_step (Kd.int .u8) _ 5 ?hg (N := 50) ?hd (xs := ([a2] : List Int)) (inner := [.int .u8 a2]) (ok := fun _ => True) (okp := fun _ => True) ?hr ?hp (fun _ hk => hk) trivial (Below.refl _ _) (Nat.le_refl _) (by simp) ?_; (case hd => rfl); (case hg => rfl); (case hr => first | (go_simp; done) | (go_simp; rfl)); (case hp => exact (Reps.one (show Kd.M (Kd.int .u8) _ _ _ a2 [.int .u8 a2] from rfl) (Reps.none _ _)))
            intro v174 w41 ho42 hb hg_ hnew_
            clear hg_ hnew_
            (first | rw [← Ny173.out] at ho42 | (simp only [Int.reduceToNat] at ho42; rw [← Ny173.out] at ho42))
            have n0_ := Aside0.mk (Kd.R_lower ho42 (below_size (by repeat (first | (with_reducible first | exact HB.out | apply below_alloc | apply pw_below_drewN | apply below_drew1 | refine below_set ?_ GE159.out | refine below_set ?_ GE171.out) | exact HB.out))))
            have n1_ := Aside0.mk (blk_below (g := gb159) (o := .cells #[.int .i64 a0_0, .int .u64 a0_1, .int .i64 a0_2, .int .i64 a0_3, .int .i64 a0_4, .int .i64 a0_5, .int .i64 a0_6] 24 (0, 0)) (by (with_reducible repeat (first | refine blk_drewN ?_ _ | refine blk_drew ?_ | refine blk_alloc ?_ _)); exact BK159.out) hb)
            have n2_ := Aside0.mk (blk_below (g := gb171) (o := .cells #[.int .i64 t163, .int .u64 t164, .int .i64 t165, .int .i64 t166, .int .i64 t167, .int .i64 t168, .int .i64 t169] 24 (0, 0)) (by (with_reducible repeat (first | refine blk_drewN ?_ _ | refine blk_drew ?_ | refine blk_alloc ?_ _)); exact BK171.out) hb)
            have n3_ := Aside0.mk (below_step (by repeat (first | (with_reducible first | exact HB.out | apply below_alloc | apply pw_below_drewN | apply below_drew1 | refine below_set ?_ GE159.out | refine below_set ?_ GE171.out) | exact HB.out)) hb)
            clear BK159
            clear BK171
            clear HB
            have HO175 := n0_
            have BK159 := n1_
            have BK171 := n2_
            have HB := n3_
            clear n0_ n1_ n2_ n3_
            clear hb ho42
            refine hK.out _ _ trivial (fun hHeld => ?_)
            clear hK K
            refine norm_ (a' := ?_) ?_ ?_
            rotate_left
            ·show Act.put _ (some 50) _ = _
             simp only [Act.put, List.setIfInBounds_toArray, List.set_cons_zero, List.set_cons_succ, i64_w, i32_w]
             rfl
            refine one_ (i := 5) (N := some 51) #[true, true, true, true, true, true, false, true, true, true, false, false] rfl rfl (one_of HT_.out (by kernel_rfl)) (by decide) (fun K hK => ?_)
            have hcv43 := own_string (P := Tryd.prog) Tryd.underlying32 Tryd.underlying5 Tryd.underlying9 (Kd.own_of_R HO175.out)
            refine value_ (w1 := ?_) (v := ?_) (by rfl) rfl ?_ ?_
            rotate_left 2
            ·go_simp
             constructor
             ·rfl
             ·rfl
            clear hcv43
            refine hK.out _ _ trivial (fun hHeld => ?_)
            clear hK K
            refine norm_ (a' := ?_) ?_ ?_
            rotate_left
            ·show Act.put _ (some 51) _ = _
             simp only [Act.put, List.setIfInBounds_toArray, List.set_cons_zero, List.set_cons_succ, i64_w, i32_w]
             rfl
            refine pure_ (i := 6) (N := some 52) (v := ?_) (a' := ?_) #[true, true, true, true, true, true, true, true, true, true, false, false] rfl rfl (any_of HT_.out (by kernel_rfl)) (fun _ _ _ h => h) (Or.inl ⟨by rfl, ?_⟩) ?_ ?_
            rotate_left
            ·intro w'
             go_simp
             with_reducible rfl
            rotate_left
            ·simp only [Act.put, List.setIfInBounds_toArray, List.set_cons_zero, List.set_cons_succ, i64_w, i32_w]
             rfl
            refine pure_ (i := 10) (N := some 56) (v := ?_) (a' := ?_) #[true, true, true, true, true, true, true, true, true, true, true, false] rfl rfl (any_of HT_.out (by kernel_rfl)) (fun _ _ _ h => h) (Or.inl ⟨by rfl, ?_⟩) ?_ ?_
            rotate_left
            ·intro w'
             go_simp
             with_reducible rfl
            rotate_left
            ·simp only [Act.put, List.setIfInBounds_toArray, List.set_cons_zero, List.set_cons_succ, i64_w, i32_w]
             rfl
            refine pure_ (i := 11) (N := some 11) (v := ?_) (a' := ?_) #[true, true, true, true, true, true, true, true, true, true, true, true] rfl rfl (any_of HT_.out (by kernel_rfl)) (fun _ _ _ h => h) (Or.inl ⟨by rfl, ?_⟩) ?_ ?_
            rotate_left
            ·intro w'
             go_simp
             with_reducible rfl
            rotate_left
            ·simp only [Act.put, List.setIfInBounds_toArray, List.set_cons_zero, List.set_cons_succ, i64_w, i32_w]
             rfl
            refine done_ (done_of HT_.out (by kernel_rfl)) ?_
            try go_wp2_with (first | ((with_reducible refine gate_callee (f := 11) rfl ?_); refine goesL_ (some 59) rfl rfl Tryd.func11 (by kernel_rfl) rfl #[.string (((t160.extract 0 (t172 : Int).toNat) ++ (strOfNums y173)) ++ (t160.extract (t172 : Int).toNat t160.size))] rfl (by (try simp only [List.map_toArray, List.map_cons, List.map_nil]); first | done | rfl | (simp only [List.length_drop, List.length_take]; rfl)) ?_; (with_reducible refine (note_Read.calls kj7 (((t160.extract 0 (t172 : Int).toNat) ++ (strOfNums y173)) ++ (t160.extract (t172 : Int).toNat t160.size)) t176 t177 t178 t179 t180 t181 t182 t183 _ ?side1 A34.out).mono ?_); (case side1 => exact ⟨by repeat (first | (with_reducible exact hM_.out) | (with_reducible exact LaidW.below hM_.out HB.out) | (with_reducible refine LaidW.alloc ?_ _) | (with_reducible refine LaidW.drewN ?_ _) | (with_reducible refine LaidW.drew ?_) | exact LaidW.below hM_.out (by repeat (first | (with_reducible first | exact HB.out | apply below_alloc | apply pw_below_drewN | apply below_drew1 | refine below_set ?_ GE159.out | refine below_set ?_ GE171.out) | exact HB.out)))⟩); rintro e w44 ⟨rfl, hb⟩; refine ⟨_, rfl, ?_⟩; have n0_ := Aside0.mk (Kd.R_below (by (with_reducible repeat (first | apply Kd.R_alloc | apply Kd.R_drewN | apply Kd.R_drew)); exact HO175.out) hb); have n1_ := Aside0.mk (blk_below (g := gb159) (o := .cells #[.int .i64 a0_0, .int .u64 a0_1, .int .i64 a0_2, .int .i64 a0_3, .int .i64 a0_4, .int .i64 a0_5, .int .i64 a0_6] 24 (0, 0)) (by (with_reducible repeat (first | refine blk_drewN ?_ _ | refine blk_drew ?_ | refine blk_alloc ?_ _)); exact BK159.out) hb); have n2_ := Aside0.mk (blk_below (g := gb171) (o := .cells #[.int .i64 t163, .int .u64 t164, .int .i64 t165, .int .i64 t166, .int .i64 t167, .int .i64 t168, .int .i64 t169] 24 (0, 0)) (by (with_reducible repeat (first | refine blk_drewN ?_ _ | refine blk_drew ?_ | refine blk_alloc ?_ _)); exact BK171.out) hb); have n3_ := Aside0.mk (below_step (by repeat (first | (with_reducible first | exact HB.out | apply below_alloc | apply pw_below_drewN | apply below_drew1 | refine below_set ?_ GE159.out | refine below_set ?_ GE171.out) | exact HB.out)) hb); clear HO175; clear BK159; clear BK171; clear HB; have HO175 := n0_; have BK159 := n1_; have BK171 := n2_; have HB := n3_; clear n0_ n1_ n2_ n3_; (try clear hb); (try clear hb2); (try clear hk); (try clear hi)) | ((with_reducible refine gate_dst (N := 12) rfl ?_); (try (refine gate_guard (by rfl) ?_; dsimp only)); refine box_event ?hg (N := 12) ?hd (cs := #[.int .i64 0, .int .u64 0, .int .i64 0, .int .i64 0, .int .i64 0, .int .i64 0, .int .i64 0]) (t := 24) ?hr ?_; (case hd => rfl); (case hg => rfl); (case hr => first | (go_simp; done) | (go_simp; rfl)); intro gb184 hg w45 hbox hb; have n0_ := Aside0.mk (Kd.R_below (by (with_reducible repeat (first | apply Kd.R_alloc | apply Kd.R_drewN | apply Kd.R_drew)); exact HO175.out) hb); have n1_ := Aside0.mk (blk_below (g := gb159) (o := .cells #[.int .i64 a0_0, .int .u64 a0_1, .int .i64 a0_2, .int .i64 a0_3, .int .i64 a0_4, .int .i64 a0_5, .int .i64 a0_6] 24 (0, 0)) (by (with_reducible repeat (first | refine blk_drewN ?_ _ | refine blk_drew ?_ | refine blk_alloc ?_ _)); exact BK159.out) hb); have n2_ := Aside0.mk (blk_below (g := gb171) (o := .cells #[.int .i64 t163, .int .u64 t164, .int .i64 t165, .int .i64 t166, .int .i64 t167, .int .i64 t168, .int .i64 t169] 24 (0, 0)) (by (with_reducible repeat (first | refine blk_drewN ?_ _ | refine blk_drew ?_ | refine blk_alloc ?_ _)); exact BK171.out) hb); have n3_ := Aside0.mk (below_step (by repeat (first | (with_reducible first | exact HB.out | apply below_alloc | apply pw_below_drewN | apply below_drew1 | refine below_set ?_ GE159.out | refine below_set ?_ GE171.out) | exact HB.out)) hb); have n4_ := Aside0.mk (hbox); have n5_ := Aside0.mk ((by rw [hg]; exact (below_size (by repeat (first | (with_reducible first | exact HB.out | apply below_alloc | apply pw_below_drewN | apply below_drew1 | refine below_set ?_ GE159.out | refine below_set ?_ GE171.out) | exact HB.out))) : w.heap.size ≤ gb184)); have n6_ := Aside0.mk ((by rw [hg]; exact (below_size (by repeat (first | (with_reducible first | exact HB.out | apply below_alloc | apply pw_below_drewN | apply below_drew1 | refine below_set ?_ GE159.out | refine below_set ?_ GE171.out) | exact HB.out))) : w.heap.size ≤ gb184)); have n7_ := Aside0.mk ((by rw [hg]; exact Nat.ne_of_lt (blk_lt (g := gb159) (o := .cells #[.int .i64 a0_0, .int .u64 a0_1, .int .i64 a0_2, .int .i64 a0_3, .int .i64 a0_4, .int .i64 a0_5, .int .i64 a0_6] 24 (0, 0)) (by (with_reducible repeat (first | refine blk_drewN ?_ _ | refine blk_drew ?_ | refine blk_alloc ?_ _)); exact BK159.out)) : gb159 ≠ gb184)); have n8_ := Aside0.mk ((by rw [hg]; exact Nat.ne_of_gt (blk_lt (g := gb159) (o := .cells #[.int .i64 a0_0, .int .u64 a0_1, .int .i64 a0_2, .int .i64 a0_3, .int .i64 a0_4, .int .i64 a0_5, .int .i64 a0_6] 24 (0, 0)) (by (with_reducible repeat (first | refine blk_drewN ?_ _ | refine blk_drew ?_ | refine blk_alloc ?_ _)); exact BK159.out)) : gb184 ≠ gb159)); have n9_ := Aside0.mk ((by rw [hg]; exact Nat.ne_of_lt (blk_lt (g := gb171) (o := .cells #[.int .i64 t163, .int .u64 t164, .int .i64 t165, .int .i64 t166, .int .i64 t167, .int .i64 t168, .int .i64 t169] 24 (0, 0)) (by (with_reducible repeat (first | refine blk_drewN ?_ _ | refine blk_drew ?_ | refine blk_alloc ?_ _)); exact BK171.out)) : gb171 ≠ gb184)); have n10_ := Aside0.mk ((by rw [hg]; exact Nat.ne_of_gt (blk_lt (g := gb171) (o := .cells #[.int .i64 t163, .int .u64 t164, .int .i64 t165, .int .i64 t166, .int .i64 t167, .int .i64 t168, .int .i64 t169] 24 (0, 0)) (by (with_reducible repeat (first | refine blk_drewN ?_ _ | refine blk_drew ?_ | refine blk_alloc ?_ _)); exact BK171.out)) : gb184 ≠ gb171)); clear HO175; clear BK159; clear BK171; clear HB; have HO175 := n0_; have BK159 := n1_; have BK171 := n2_; have HB := n3_; have BK184 := n4_; have GW184 := n5_; have GE184 := n6_; have NB159_184 := n7_; have NB184_159 := n8_; have NB171_184 := n9_; have NB184_171 := n10_; clear n0_ n1_ n2_ n3_ n4_ n5_ n6_ n7_ n8_ n9_ n10_; clear hb hbox hg; have hnb46 := NB184_159.out; have hnc46 := NB159_184.out; have hnb47 := NB184_171.out; have hnc47 := NB171_184.out; have hcz48_0 : w45.cell? ⟨gb184, 0, none⟩ = some (.int .i64 0) := (blk_cell BK184.out 0).trans rfl; have hcz48_1 : w45.cell? ⟨gb184, 1, none⟩ = some (.int .u64 0) := (blk_cell BK184.out 1).trans rfl; have hcz48_2 : w45.cell? ⟨gb184, 2, none⟩ = some (.int .i64 0) := (blk_cell BK184.out 2).trans rfl; have hcz48_3 : w45.cell? ⟨gb184, 3, none⟩ = some (.int .i64 0) := (blk_cell BK184.out 3).trans rfl; have hcz48_4 : w45.cell? ⟨gb184, 4, none⟩ = some (.int .i64 0) := (blk_cell BK184.out 4).trans rfl; have hcz48_5 : w45.cell? ⟨gb184, 5, none⟩ = some (.int .i64 0) := (blk_cell BK184.out 5).trans rfl; have hcz48_6 : w45.cell? ⟨gb184, 6, none⟩ = some (.int .i64 0) := (blk_cell BK184.out 6).trans rfl; have hfz48_0 := blk_frozen BK184.out 0; have hfz48_1 := blk_frozen BK184.out 1; have hfz48_2 := blk_frozen BK184.out 2; have hfz48_3 := blk_frozen BK184.out 3; have hfz48_4 := blk_frozen BK184.out 4; have hfz48_5 := blk_frozen BK184.out 5; have hfz48_6 := blk_frozen BK184.out 6; have hnb49 := NB159_171.out; have hnc49 := NB171_159.out; have hcz50_0 : w45.cell? ⟨gb159, 0, none⟩ = some (.int .i64 a0_0) := (blk_cell BK159.out 0).trans rfl; have hcz50_1 : w45.cell? ⟨gb159, 1, none⟩ = some (.int .u64 a0_1) := (blk_cell BK159.out 1).trans rfl; have hcz50_2 : w45.cell? ⟨gb159, 2, none⟩ = some (.int .i64 a0_2) := (blk_cell BK159.out 2).trans rfl; have hcz50_3 : w45.cell? ⟨gb159, 3, none⟩ = some (.int .i64 a0_3) := (blk_cell BK159.out 3).trans rfl; have hcz50_4 : w45.cell? ⟨gb159, 4, none⟩ = some (.int .i64 a0_4) := (blk_cell BK159.out 4).trans rfl; have hcz50_5 : w45.cell? ⟨gb159, 5, none⟩ = some (.int .i64 a0_5) := (blk_cell BK159.out 5).trans rfl; have hcz50_6 : w45.cell? ⟨gb159, 6, none⟩ = some (.int .i64 a0_6) := (blk_cell BK159.out 6).trans rfl; have hfz50_0 := blk_frozen BK159.out 0; have hfz50_1 := blk_frozen BK159.out 1; have hfz50_2 := blk_frozen BK159.out 2; have hfz50_3 := blk_frozen BK159.out 3; have hfz50_4 := blk_frozen BK159.out 4; have hfz50_5 := blk_frozen BK159.out 5; have hfz50_6 := blk_frozen BK159.out 6) | (go_at_call 8; (with_reducible refine (note_Show.calls kj7 t176 t177 t178 t179 t180 t181 t182 t185 _ ?side1 A37.out).mono ?_); (case side1 => exact ⟨by repeat (first | (with_reducible exact hM_.out) | (with_reducible exact LaidW.below hM_.out HB.out) | (with_reducible refine LaidW.alloc ?_ _) | (with_reducible refine LaidW.drewN ?_ _) | (with_reducible refine LaidW.drew ?_) | exact LaidW.below hM_.out (by repeat (first | (with_reducible first | exact HB.out | apply below_alloc | apply pw_below_drewN | apply below_drew1 | refine below_set ?_ GE159.out | refine below_set ?_ GE171.out | refine below_set ?_ GE184.out) | exact HB.out)))⟩); rintro e w51 ⟨rfl, hb⟩; have n0_ := Aside0.mk (Kd.R_below (by (with_reducible repeat (first | apply Kd.R_alloc | apply Kd.R_drewN | apply Kd.R_drew)); exact (Kd.R_mono (Kd.R_far (p := ⟨gb184, 6, none⟩) (Kd.R_far (p := ⟨gb184, 5, none⟩) (Kd.R_far (p := ⟨gb184, 4, none⟩) (Kd.R_far (p := ⟨gb184, 3, none⟩) (Kd.R_far (p := ⟨gb184, 2, none⟩) (Kd.R_far (p := ⟨gb184, 1, none⟩) (Kd.R_far (p := ⟨gb184, 0, none⟩) (Kd.R_types HO175.out BK184.out (by decide)) (fun _ hk => hk.2) (.int .i64 t176)) (fun _ hk => hk.2) (.int .u64 t177)) (fun _ hk => hk.2) (.int .i64 t178)) (fun _ hk => hk.2) (.int .i64 t179)) (fun _ hk => hk.2) (.int .i64 t180)) (fun _ hk => hk.2) (.int .i64 t181)) (fun _ hk => hk.2) (.int .i64 t182)) (fun _ h_ => h_.1))) hb); have n1_ := Aside0.mk (blk_below (g := gb159) (o := .cells #[.int .i64 a0_0, .int .u64 a0_1, .int .i64 a0_2, .int .i64 a0_3, .int .i64 a0_4, .int .i64 a0_5, .int .i64 a0_6] 24 (0, 0)) (by (with_reducible repeat (first | refine blk_drewN ?_ _ | refine blk_drew ?_ | refine blk_alloc ?_ _)); refine blk_far ?_ NB159_184.out _; (with_reducible repeat (first | refine blk_drewN ?_ _ | refine blk_drew ?_ | refine blk_alloc ?_ _)); refine blk_far ?_ NB159_184.out _; (with_reducible repeat (first | refine blk_drewN ?_ _ | refine blk_drew ?_ | refine blk_alloc ?_ _)); refine blk_far ?_ NB159_184.out _; (with_reducible repeat (first | refine blk_drewN ?_ _ | refine blk_drew ?_ | refine blk_alloc ?_ _)); refine blk_far ?_ NB159_184.out _; (with_reducible repeat (first | refine blk_drewN ?_ _ | refine blk_drew ?_ | refine blk_alloc ?_ _)); refine blk_far ?_ NB159_184.out _; (with_reducible repeat (first | refine blk_drewN ?_ _ | refine blk_drew ?_ | refine blk_alloc ?_ _)); refine blk_far ?_ NB159_184.out _; (with_reducible repeat (first | refine blk_drewN ?_ _ | refine blk_drew ?_ | refine blk_alloc ?_ _)); refine blk_far ?_ NB159_184.out _; (with_reducible repeat (first | refine blk_drewN ?_ _ | refine blk_drew ?_ | refine blk_alloc ?_ _)); exact BK159.out) hb); have n2_ := Aside0.mk (blk_below (g := gb171) (o := .cells #[.int .i64 t163, .int .u64 t164, .int .i64 t165, .int .i64 t166, .int .i64 t167, .int .i64 t168, .int .i64 t169] 24 (0, 0)) (by (with_reducible repeat (first | refine blk_drewN ?_ _ | refine blk_drew ?_ | refine blk_alloc ?_ _)); refine blk_far ?_ NB171_184.out _; (with_reducible repeat (first | refine blk_drewN ?_ _ | refine blk_drew ?_ | refine blk_alloc ?_ _)); refine blk_far ?_ NB171_184.out _; (with_reducible repeat (first | refine blk_drewN ?_ _ | refine blk_drew ?_ | refine blk_alloc ?_ _)); refine blk_far ?_ NB171_184.out _; (with_reducible repeat (first | refine blk_drewN ?_ _ | refine blk_drew ?_ | refine blk_alloc ?_ _)); refine blk_far ?_ NB171_184.out _; (with_reducible repeat (first | refine blk_drewN ?_ _ | refine blk_drew ?_ | refine blk_alloc ?_ _)); refine blk_far ?_ NB171_184.out _; (with_reducible repeat (first | refine blk_drewN ?_ _ | refine blk_drew ?_ | refine blk_alloc ?_ _)); refine blk_far ?_ NB171_184.out _; (with_reducible repeat (first | refine blk_drewN ?_ _ | refine blk_drew ?_ | refine blk_alloc ?_ _)); refine blk_far ?_ NB171_184.out _; (with_reducible repeat (first | refine blk_drewN ?_ _ | refine blk_drew ?_ | refine blk_alloc ?_ _)); exact BK171.out) hb); have n3_ := Aside0.mk (blk_below (g := gb184) (o := .cells #[.int .i64 t176, .int .u64 t177, .int .i64 t178, .int .i64 t179, .int .i64 t180, .int .i64 t181, .int .i64 t182] 24 (0, 0)) (by (with_reducible repeat (first | refine blk_drewN ?_ _ | refine blk_drew ?_ | refine blk_alloc ?_ _)); refine blk_put (cs := #[.int .i64 t176, .int .u64 t177, .int .i64 t178, .int .i64 t179, .int .i64 t180, .int .i64 t181, .int .i64 0]) ?_ 6 _ rfl; (with_reducible repeat (first | refine blk_drewN ?_ _ | refine blk_drew ?_ | refine blk_alloc ?_ _)); refine blk_put (cs := #[.int .i64 t176, .int .u64 t177, .int .i64 t178, .int .i64 t179, .int .i64 t180, .int .i64 0, .int .i64 0]) ?_ 5 _ rfl; (with_reducible repeat (first | refine blk_drewN ?_ _ | refine blk_drew ?_ | refine blk_alloc ?_ _)); refine blk_put (cs := #[.int .i64 t176, .int .u64 t177, .int .i64 t178, .int .i64 t179, .int .i64 0, .int .i64 0, .int .i64 0]) ?_ 4 _ rfl; (with_reducible repeat (first | refine blk_drewN ?_ _ | refine blk_drew ?_ | refine blk_alloc ?_ _)); refine blk_put (cs := #[.int .i64 t176, .int .u64 t177, .int .i64 t178, .int .i64 0, .int .i64 0, .int .i64 0, .int .i64 0]) ?_ 3 _ rfl; (with_reducible repeat (first | refine blk_drewN ?_ _ | refine blk_drew ?_ | refine blk_alloc ?_ _)); refine blk_put (cs := #[.int .i64 t176, .int .u64 t177, .int .i64 0, .int .i64 0, .int .i64 0, .int .i64 0, .int .i64 0]) ?_ 2 _ rfl; (with_reducible repeat (first | refine blk_drewN ?_ _ | refine blk_drew ?_ | refine blk_alloc ?_ _)); refine blk_put (cs := #[.int .i64 t176, .int .u64 0, .int .i64 0, .int .i64 0, .int .i64 0, .int .i64 0, .int .i64 0]) ?_ 1 _ rfl; (with_reducible repeat (first | refine blk_drewN ?_ _ | refine blk_drew ?_ | refine blk_alloc ?_ _)); refine blk_put (cs := #[.int .i64 0, .int .u64 0, .int .i64 0, .int .i64 0, .int .i64 0, .int .i64 0, .int .i64 0]) ?_ 0 _ rfl; (with_reducible repeat (first | refine blk_drewN ?_ _ | refine blk_drew ?_ | refine blk_alloc ?_ _)); exact BK184.out) hb); have n4_ := Aside0.mk (below_step (by repeat (first | (with_reducible first | exact HB.out | apply below_alloc | apply pw_below_drewN | apply below_drew1 | refine below_set ?_ GE159.out | refine below_set ?_ GE171.out | refine below_set ?_ GE184.out) | exact HB.out)) hb); clear HO175; clear BK159; clear BK171; clear BK184; clear HB; have HO175 := n0_; have BK159 := n1_; have BK171 := n2_; have BK184 := n3_; have HB := n4_; clear n0_ n1_ n2_ n3_ n4_; (try clear hb); (try clear hb2); (try clear hk); (try clear hi)) | (go_at_call 10; (with_reducible refine (lockkeeperlaw24_awake.calls kj7  t186 _ ?side1 A39.out).mono ?_); (case side1 => exact ⟨by repeat (first | (with_reducible exact hM_.out) | (with_reducible exact LaidW.below hM_.out HB.out) | (with_reducible refine LaidW.alloc ?_ _) | (with_reducible refine LaidW.drewN ?_ _) | (with_reducible refine LaidW.drew ?_) | exact LaidW.below hM_.out (by repeat (first | (with_reducible first | exact HB.out | apply below_alloc | apply pw_below_drewN | apply below_drew1 | refine below_set ?_ GE159.out | refine below_set ?_ GE171.out | refine below_set ?_ GE184.out) | exact HB.out)))⟩); rintro e w52 ⟨rfl, hb⟩; have n0_ := Aside0.mk (Kd.R_below (by (with_reducible repeat (first | apply Kd.R_alloc | apply Kd.R_drewN | apply Kd.R_drew)); exact HO175.out) hb); have n1_ := Aside0.mk (blk_below (g := gb159) (o := .cells #[.int .i64 a0_0, .int .u64 a0_1, .int .i64 a0_2, .int .i64 a0_3, .int .i64 a0_4, .int .i64 a0_5, .int .i64 a0_6] 24 (0, 0)) (by (with_reducible repeat (first | refine blk_drewN ?_ _ | refine blk_drew ?_ | refine blk_alloc ?_ _)); exact BK159.out) hb); have n2_ := Aside0.mk (blk_below (g := gb171) (o := .cells #[.int .i64 t163, .int .u64 t164, .int .i64 t165, .int .i64 t166, .int .i64 t167, .int .i64 t168, .int .i64 t169] 24 (0, 0)) (by (with_reducible repeat (first | refine blk_drewN ?_ _ | refine blk_drew ?_ | refine blk_alloc ?_ _)); exact BK171.out) hb); have n3_ := Aside0.mk (blk_below (g := gb184) (o := .cells #[.int .i64 t176, .int .u64 t177, .int .i64 t178, .int .i64 t179, .int .i64 t180, .int .i64 t181, .int .i64 t182] 24 (0, 0)) (by (with_reducible repeat (first | refine blk_drewN ?_ _ | refine blk_drew ?_ | refine blk_alloc ?_ _)); exact BK184.out) hb); have n4_ := Aside0.mk (below_step (by repeat (first | (with_reducible first | exact HB.out | apply below_alloc | apply pw_below_drewN | apply below_drew1 | refine below_set ?_ GE159.out | refine below_set ?_ GE171.out | refine below_set ?_ GE184.out) | exact HB.out)) hb); clear HO175; clear BK159; clear BK171; clear BK184; clear HB; have HO175 := n0_; have BK159 := n1_; have BK171 := n2_; have BK184 := n3_; have HB := n4_; clear n0_ n1_ n2_ n3_ n4_; (try clear hb); (try clear hb2); (try clear hk); (try clear hi)))
            go_ret
            exact ⟨by first | rfl | (simp [errW_none, errW_some] <;> rfl) | (simp [*, errW_none, errW_some] <;> rfl), by repeat (first | (with_reducible first | exact HB.out | apply below_alloc | apply pw_below_drewN | apply below_drew1 | refine below_set ?_ GE159.out | refine below_set ?_ GE171.out | refine below_set ?_ GE184.out) | exact HB.out)⟩
           ·rw [if_neg c38] at H
            have c38b0 : (t185.toList == (((t160.extract 0 (t172 : Int).toNat) ++ (strOfNums y173)) ++ (t160.extract (t172 : Int).toNat t160.size)).toList) = false := beq_eq_false_iff_ne.mpr c38
            have c38b1 : (t185.toList != (((t160.extract 0 (t172 : Int).toNat) ++ (strOfNums y173)) ++ (t160.extract (t172 : Int).toNat t160.size)).toList) = true := bne_iff_ne.mpr c38
            exact absurd ((Option.some.inj H).trans hr_) (by decide)
          ·rw [if_neg c36] at H
           have c36b0 : (!(t176 == a0_0) || (!(t177 == a0_1) || (!(t178 == a0_2) || (!(t179 == a0_3) || (!(t180 == a0_4) || (!(t181 == a0_5) || (!(t182 == a0_6)))))))) = false := by simpa using c36
           clear c36
           clear hr_
           obtain rfl := Option.some.inj H
           try go_wp2_with (first | ((with_reducible refine gate_callee (f := 12) rfl ?_); refine goesL_ (some 45) rfl rfl Tryd.func12 (by kernel_rfl) rfl #[.int .i64 a1, .int .i64 (wrap64 ((t160.size : Int) + 1))] rfl (by (try simp only [List.map_toArray, List.map_cons, List.map_nil]); first | done | rfl | (simp only [List.length_drop, List.length_take]; rfl)) ?_; (with_reducible refine (lockkeeperlaw0_Low.calls a1 (wrap64 ((t160.size : Int) + 1)) t172 _ A27.out).mono ?_); rintro e w' ⟨rfl, ⟨nd, rfl⟩⟩; refine ⟨_, rfl, ?_⟩; (try (rw [drewN_self wc]; generalize hq_ : World.drewN wc _ = wc; have n0_ : Aside0 (wc.heap[gb159]? = some (.cells #[.int .i64 a0_0, .int .u64 a0_1, .int .i64 a0_2, .int .i64 a0_3, .int .i64 a0_4, .int .i64 a0_5, .int .i64 a0_6] 24 (0, 0))) := ⟨by rw [← hq_]; exact (by (with_reducible repeat (first | refine blk_drewN ?_ _ | refine blk_drew ?_ | refine blk_alloc ?_ _)); exact BK159.out)⟩; have n1_ : Aside0 (wc.heap[gb171]? = some (.cells #[.int .i64 t163, .int .u64 t164, .int .i64 t165, .int .i64 t166, .int .i64 t167, .int .i64 t168, .int .i64 t169] 24 (0, 0))) := ⟨by rw [← hq_]; exact (by (with_reducible repeat (first | refine blk_drewN ?_ _ | refine blk_drew ?_ | refine blk_alloc ?_ _)); exact BK171.out)⟩; have n2_ : Aside0 (Below w.heap.size w wc) := ⟨by rw [← hq_]; exact (by repeat (first | (with_reducible first | exact HB.out | apply below_alloc | apply pw_below_drewN | apply below_drew1 | refine below_set ?_ GE159.out | refine below_set ?_ GE171.out) | exact HB.out))⟩; clear BK159 BK171 HB hq_; have BK159 := n0_; have BK171 := n1_; have HB := n2_; clear n0_ n1_ n2_))))
           have n0_ := Aside0.mk (blk_drew BK159.out)
           have n1_ := Aside0.mk (blk_drew BK171.out)
           have n2_ := Aside0.mk (below_drew1 HB.out)
           clear BK159
           clear BK171
           clear HB
           have BK159 := n0_
           have BK171 := n1_
           have HB := n2_
           clear n0_ n1_ n2_
           refine start_ (n := 12) (S := fun w' => True) (ds := []) #[false, false, false, false, false, false, false, false, false, false, false, false] (by kernel_rfl) rfl rfl trivial (fun hHeld => ?_); refine with_tabW lockkeeperlaw24_NoteBack.tab8 lockkeeperlaw24_NoteBack.bits8 (fun HT_ HW_ => ?_)
           generalize wc.drew = w65 at BK159 BK171 HB hHeld ⊢
           refine pure_ (i := 0) (N := some 46) (v := ?_) (a' := ?_) #[true, false, false, false, false, false, false, false, false, false, false, false] rfl rfl (any_of HT_.out (by kernel_rfl)) (fun _ _ _ h => h) (Or.inl ⟨by rfl, ?_⟩) ?_ ?_
           rotate_left
           ·intro w'
            go_simp
            with_reducible rfl
           rotate_left
           ·simp only [Act.put, List.setIfInBounds_toArray, List.set_cons_zero, List.set_cons_succ, i64_w, i32_w]
            rfl
           refine pure_ (i := 1) (N := some 47) (v := ?_) (a' := ?_) #[true, true, false, false, false, false, false, false, false, false, false, false] rfl rfl (any_of HT_.out (by kernel_rfl)) (fun _ _ _ h => h) (Or.inl ⟨by rfl, ?_⟩) ?_ ?_
           rotate_left
           ·intro w'
            go_simp
            with_reducible rfl
           rotate_left
           ·simp only [Act.put, List.setIfInBounds_toArray, List.set_cons_zero, List.set_cons_succ, i64_w, i32_w]
            rfl
           refine pure_ (i := 2) (N := some 48) (v := ?_) (a' := ?_) #[true, true, true, false, false, false, false, false, false, false, false, false] rfl rfl (any_of HT_.out (by kernel_rfl)) (fun _ _ _ h => h) (Or.inl ⟨by rfl, ?_⟩) ?_ ?_
           rotate_left
           ·intro w'
            go_simp
            with_reducible rfl
           rotate_left
           ·simp only [Act.put, List.setIfInBounds_toArray, List.set_cons_zero, List.set_cons_succ, i64_w, i32_w]
            rfl
           refine pure_ (i := 3) (N := some 49) (v := ?_) (a' := ?_) #[true, true, true, true, false, false, false, false, false, false, false, false] rfl rfl (any_of HT_.out (by kernel_rfl)) (fun _ _ _ h => h) (Or.inl ⟨by rfl, ?_⟩) ?_ ?_
           rotate_left
           ·intro w'
            go_simp
            with_reducible rfl
           rotate_left
           ·simp only [Act.put, List.setIfInBounds_toArray, List.set_cons_zero, List.set_cons_succ, i64_w, i32_w]
            rfl
           refine pure_ (i := 7) (N := some 53) (v := ?_) (a' := ?_) #[true, true, true, true, false, false, false, true, false, false, false, false] rfl rfl (any_of HT_.out (by kernel_rfl)) (fun _ _ _ h => h) (Or.inl ⟨by rfl, ?_⟩) ?_ ?_
           rotate_left
           ·intro w'
            go_simp
            with_reducible rfl
           rotate_left
           ·simp only [Act.put, List.setIfInBounds_toArray, List.set_cons_zero, List.set_cons_succ, i64_w, i32_w]
            rfl
           refine pure_ (i := 8) (N := some 54) (v := ?_) (a' := ?_) #[true, true, true, true, false, false, false, true, true, false, false, false] rfl rfl (any_of HT_.out (by kernel_rfl)) (fun _ _ _ h => h) (Or.inl ⟨by rfl, ?_⟩) ?_ ?_
           rotate_left
           ·intro w'
            go_simp
            with_reducible rfl
           rotate_left
           ·simp only [Act.put, List.setIfInBounds_toArray, List.set_cons_zero, List.set_cons_succ, i64_w, i32_w]
            rfl
           refine pure_ (i := 9) (N := some 55) (v := ?_) (a' := ?_) #[true, true, true, true, false, false, false, true, true, true, false, false] rfl rfl (any_of HT_.out (by kernel_rfl)) (fun _ _ _ h => h) (Or.inl ⟨by rfl, ?_⟩) ?_ ?_
           rotate_left
           ·intro w'
            go_simp
            with_reducible rfl
           rotate_left
           ·simp only [Act.put, List.setIfInBounds_toArray, List.set_cons_zero, List.set_cons_succ, i64_w, i32_w]
            rfl
           refine one_ (i := 4) (N := some 50) #[true, true, true, true, true, false, false, true, true, true, false, false] rfl rfl (one_of HT_.out (by kernel_rfl)) (by decide) (fun K hK => ?_)
           refine Kd.R_lit_step (Kd.int .u8) _ 5 ?hg (N := 50) ?hd (xs := ([a2] : List Int)) (inner := [.int .u8 a2]) (ok := fun _ => True) (okp := fun _ => True) ?hr ?hp (fun _ hk => hk) trivial (Below.refl _ _) (Nat.le_refl _) (by simp) ?_; (case hd => rfl); (case hg => rfl); (case hr => first | (go_simp; done) | (go_simp; rfl)); (case hp => exact (Reps.one (show Kd.M (Kd.int .u8) _ _ _ a2 [.int .u8 a2] from rfl) (Reps.none _ _)))
           intro v174 w66 ho67 hb hg_ hnew_
           clear hg_ hnew_
           (first | rw [← Ny173.out] at ho67 | (simp only [Int.reduceToNat] at ho67; rw [← Ny173.out] at ho67))
           have n0_ := Aside0.mk (Kd.R_lower ho67 (below_size (by repeat (first | (with_reducible first | exact HB.out | apply below_alloc | apply pw_below_drewN | apply below_drew1 | refine below_set ?_ GE159.out | refine below_set ?_ GE171.out) | exact HB.out))))
           have n1_ := Aside0.mk (blk_below (g := gb159) (o := .cells #[.int .i64 a0_0, .int .u64 a0_1, .int .i64 a0_2, .int .i64 a0_3, .int .i64 a0_4, .int .i64 a0_5, .int .i64 a0_6] 24 (0, 0)) (by (with_reducible repeat (first | refine blk_drewN ?_ _ | refine blk_drew ?_ | refine blk_alloc ?_ _)); exact BK159.out) hb)
           have n2_ := Aside0.mk (blk_below (g := gb171) (o := .cells #[.int .i64 t163, .int .u64 t164, .int .i64 t165, .int .i64 t166, .int .i64 t167, .int .i64 t168, .int .i64 t169] 24 (0, 0)) (by (with_reducible repeat (first | refine blk_drewN ?_ _ | refine blk_drew ?_ | refine blk_alloc ?_ _)); exact BK171.out) hb)
           have n3_ := Aside0.mk (below_step (by repeat (first | (with_reducible first | exact HB.out | apply below_alloc | apply pw_below_drewN | apply below_drew1 | refine below_set ?_ GE159.out | refine below_set ?_ GE171.out) | exact HB.out)) hb)
           clear BK159
           clear BK171
           clear HB
           have HO175 := n0_
           have BK159 := n1_
           have BK171 := n2_
           have HB := n3_
           clear n0_ n1_ n2_ n3_
           clear hb ho67
           refine hK.out _ _ trivial (fun hHeld => ?_)
           clear hK K
           refine norm_ (a' := ?_) ?_ ?_
           rotate_left
           ·show Act.put _ (some 50) _ = _
            simp only [Act.put, List.setIfInBounds_toArray, List.set_cons_zero, List.set_cons_succ, i64_w, i32_w]
            rfl
           refine one_ (i := 5) (N := some 51) #[true, true, true, true, true, true, false, true, true, true, false, false] rfl rfl (one_of HT_.out (by kernel_rfl)) (by decide) (fun K hK => ?_)
           have hcv68 := own_string (P := Tryd.prog) Tryd.underlying32 Tryd.underlying5 Tryd.underlying9 (Kd.own_of_R HO175.out)
           refine value_ (w1 := ?_) (v := ?_) (by rfl) rfl ?_ ?_
           rotate_left 2
           ·go_simp
            constructor
            ·rfl
            ·rfl
           clear hcv68
           refine hK.out _ _ trivial (fun hHeld => ?_)
           clear hK K
           refine norm_ (a' := ?_) ?_ ?_
           rotate_left
           ·show Act.put _ (some 51) _ = _
            simp only [Act.put, List.setIfInBounds_toArray, List.set_cons_zero, List.set_cons_succ, i64_w, i32_w]
            rfl
           refine pure_ (i := 6) (N := some 52) (v := ?_) (a' := ?_) #[true, true, true, true, true, true, true, true, true, true, false, false] rfl rfl (any_of HT_.out (by kernel_rfl)) (fun _ _ _ h => h) (Or.inl ⟨by rfl, ?_⟩) ?_ ?_
           rotate_left
           ·intro w'
            go_simp
            with_reducible rfl
           rotate_left
           ·simp only [Act.put, List.setIfInBounds_toArray, List.set_cons_zero, List.set_cons_succ, i64_w, i32_w]
            rfl
           refine pure_ (i := 10) (N := some 56) (v := ?_) (a' := ?_) #[true, true, true, true, true, true, true, true, true, true, true, false] rfl rfl (any_of HT_.out (by kernel_rfl)) (fun _ _ _ h => h) (Or.inl ⟨by rfl, ?_⟩) ?_ ?_
           rotate_left
           ·intro w'
            go_simp
            with_reducible rfl
           rotate_left
           ·simp only [Act.put, List.setIfInBounds_toArray, List.set_cons_zero, List.set_cons_succ, i64_w, i32_w]
            rfl
           refine pure_ (i := 11) (N := some 11) (v := ?_) (a' := ?_) #[true, true, true, true, true, true, true, true, true, true, true, true] rfl rfl (any_of HT_.out (by kernel_rfl)) (fun _ _ _ h => h) (Or.inl ⟨by rfl, ?_⟩) ?_ ?_
           rotate_left
           ·intro w'
            go_simp
            with_reducible rfl
           rotate_left
           ·simp only [Act.put, List.setIfInBounds_toArray, List.set_cons_zero, List.set_cons_succ, i64_w, i32_w]
            rfl
           refine done_ (done_of HT_.out (by kernel_rfl)) ?_
           try go_wp2_with (first | ((with_reducible refine gate_callee (f := 11) rfl ?_); refine goesL_ (some 59) rfl rfl Tryd.func11 (by kernel_rfl) rfl #[.string (((t160.extract 0 (t172 : Int).toNat) ++ (strOfNums y173)) ++ (t160.extract (t172 : Int).toNat t160.size))] rfl (by (try simp only [List.map_toArray, List.map_cons, List.map_nil]); first | done | rfl | (simp only [List.length_drop, List.length_take]; rfl)) ?_; (with_reducible refine (note_Read.calls kj7 (((t160.extract 0 (t172 : Int).toNat) ++ (strOfNums y173)) ++ (t160.extract (t172 : Int).toNat t160.size)) t176 t177 t178 t179 t180 t181 t182 t183 _ ?side1 A34.out).mono ?_); (case side1 => exact ⟨by repeat (first | (with_reducible exact hM_.out) | (with_reducible exact LaidW.below hM_.out HB.out) | (with_reducible refine LaidW.alloc ?_ _) | (with_reducible refine LaidW.drewN ?_ _) | (with_reducible refine LaidW.drew ?_) | exact LaidW.below hM_.out (by repeat (first | (with_reducible first | exact HB.out | apply below_alloc | apply pw_below_drewN | apply below_drew1 | refine below_set ?_ GE159.out | refine below_set ?_ GE171.out) | exact HB.out)))⟩); rintro e w69 ⟨rfl, hb⟩; refine ⟨_, rfl, ?_⟩; have n0_ := Aside0.mk (Kd.R_below (by (with_reducible repeat (first | apply Kd.R_alloc | apply Kd.R_drewN | apply Kd.R_drew)); exact HO175.out) hb); have n1_ := Aside0.mk (blk_below (g := gb159) (o := .cells #[.int .i64 a0_0, .int .u64 a0_1, .int .i64 a0_2, .int .i64 a0_3, .int .i64 a0_4, .int .i64 a0_5, .int .i64 a0_6] 24 (0, 0)) (by (with_reducible repeat (first | refine blk_drewN ?_ _ | refine blk_drew ?_ | refine blk_alloc ?_ _)); exact BK159.out) hb); have n2_ := Aside0.mk (blk_below (g := gb171) (o := .cells #[.int .i64 t163, .int .u64 t164, .int .i64 t165, .int .i64 t166, .int .i64 t167, .int .i64 t168, .int .i64 t169] 24 (0, 0)) (by (with_reducible repeat (first | refine blk_drewN ?_ _ | refine blk_drew ?_ | refine blk_alloc ?_ _)); exact BK171.out) hb); have n3_ := Aside0.mk (below_step (by repeat (first | (with_reducible first | exact HB.out | apply below_alloc | apply pw_below_drewN | apply below_drew1 | refine below_set ?_ GE159.out | refine below_set ?_ GE171.out) | exact HB.out)) hb); clear HO175; clear BK159; clear BK171; clear HB; have HO175 := n0_; have BK159 := n1_; have BK171 := n2_; have HB := n3_; clear n0_ n1_ n2_ n3_; (try clear hb); (try clear hb2); (try clear hk); (try clear hi)) | ((with_reducible refine gate_dst (N := 12) rfl ?_); (try (refine gate_guard (by rfl) ?_; dsimp only)); refine box_event ?hg (N := 12) ?hd (cs := #[.int .i64 0, .int .u64 0, .int .i64 0, .int .i64 0, .int .i64 0, .int .i64 0, .int .i64 0]) (t := 24) ?hr ?_; (case hd => rfl); (case hg => rfl); (case hr => first | (go_simp; done) | (go_simp; rfl)); intro gb184 hg w70 hbox hb; have n0_ := Aside0.mk (Kd.R_below (by (with_reducible repeat (first | apply Kd.R_alloc | apply Kd.R_drewN | apply Kd.R_drew)); exact HO175.out) hb); have n1_ := Aside0.mk (blk_below (g := gb159) (o := .cells #[.int .i64 a0_0, .int .u64 a0_1, .int .i64 a0_2, .int .i64 a0_3, .int .i64 a0_4, .int .i64 a0_5, .int .i64 a0_6] 24 (0, 0)) (by (with_reducible repeat (first | refine blk_drewN ?_ _ | refine blk_drew ?_ | refine blk_alloc ?_ _)); exact BK159.out) hb); have n2_ := Aside0.mk (blk_below (g := gb171) (o := .cells #[.int .i64 t163, .int .u64 t164, .int .i64 t165, .int .i64 t166, .int .i64 t167, .int .i64 t168, .int .i64 t169] 24 (0, 0)) (by (with_reducible repeat (first | refine blk_drewN ?_ _ | refine blk_drew ?_ | refine blk_alloc ?_ _)); exact BK171.out) hb); have n3_ := Aside0.mk (below_step (by repeat (first | (with_reducible first | exact HB.out | apply below_alloc | apply pw_below_drewN | apply below_drew1 | refine below_set ?_ GE159.out | refine below_set ?_ GE171.out) | exact HB.out)) hb); have n4_ := Aside0.mk (hbox); have n5_ := Aside0.mk ((by rw [hg]; exact (below_size (by repeat (first | (with_reducible first | exact HB.out | apply below_alloc | apply pw_below_drewN | apply below_drew1 | refine below_set ?_ GE159.out | refine below_set ?_ GE171.out) | exact HB.out))) : w.heap.size ≤ gb184)); have n6_ := Aside0.mk ((by rw [hg]; exact (below_size (by repeat (first | (with_reducible first | exact HB.out | apply below_alloc | apply pw_below_drewN | apply below_drew1 | refine below_set ?_ GE159.out | refine below_set ?_ GE171.out) | exact HB.out))) : w.heap.size ≤ gb184)); have n7_ := Aside0.mk ((by rw [hg]; exact Nat.ne_of_lt (blk_lt (g := gb159) (o := .cells #[.int .i64 a0_0, .int .u64 a0_1, .int .i64 a0_2, .int .i64 a0_3, .int .i64 a0_4, .int .i64 a0_5, .int .i64 a0_6] 24 (0, 0)) (by (with_reducible repeat (first | refine blk_drewN ?_ _ | refine blk_drew ?_ | refine blk_alloc ?_ _)); exact BK159.out)) : gb159 ≠ gb184)); have n8_ := Aside0.mk ((by rw [hg]; exact Nat.ne_of_gt (blk_lt (g := gb159) (o := .cells #[.int .i64 a0_0, .int .u64 a0_1, .int .i64 a0_2, .int .i64 a0_3, .int .i64 a0_4, .int .i64 a0_5, .int .i64 a0_6] 24 (0, 0)) (by (with_reducible repeat (first | refine blk_drewN ?_ _ | refine blk_drew ?_ | refine blk_alloc ?_ _)); exact BK159.out)) : gb184 ≠ gb159)); have n9_ := Aside0.mk ((by rw [hg]; exact Nat.ne_of_lt (blk_lt (g := gb171) (o := .cells #[.int .i64 t163, .int .u64 t164, .int .i64 t165, .int .i64 t166, .int .i64 t167, .int .i64 t168, .int .i64 t169] 24 (0, 0)) (by (with_reducible repeat (first | refine blk_drewN ?_ _ | refine blk_drew ?_ | refine blk_alloc ?_ _)); exact BK171.out)) : gb171 ≠ gb184)); have n10_ := Aside0.mk ((by rw [hg]; exact Nat.ne_of_gt (blk_lt (g := gb171) (o := .cells #[.int .i64 t163, .int .u64 t164, .int .i64 t165, .int .i64 t166, .int .i64 t167, .int .i64 t168, .int .i64 t169] 24 (0, 0)) (by (with_reducible repeat (first | refine blk_drewN ?_ _ | refine blk_drew ?_ | refine blk_alloc ?_ _)); exact BK171.out)) : gb184 ≠ gb171)); clear HO175; clear BK159; clear BK171; clear HB; have HO175 := n0_; have BK159 := n1_; have BK171 := n2_; have HB := n3_; have BK184 := n4_; have GW184 := n5_; have GE184 := n6_; have NB159_184 := n7_; have NB184_159 := n8_; have NB171_184 := n9_; have NB184_171 := n10_; clear n0_ n1_ n2_ n3_ n4_ n5_ n6_ n7_ n8_ n9_ n10_; clear hb hbox hg; have hnb71 := NB184_159.out; have hnc71 := NB159_184.out; have hnb72 := NB184_171.out; have hnc72 := NB171_184.out; have hcz73_0 : w70.cell? ⟨gb184, 0, none⟩ = some (.int .i64 0) := (blk_cell BK184.out 0).trans rfl; have hcz73_1 : w70.cell? ⟨gb184, 1, none⟩ = some (.int .u64 0) := (blk_cell BK184.out 1).trans rfl; have hcz73_2 : w70.cell? ⟨gb184, 2, none⟩ = some (.int .i64 0) := (blk_cell BK184.out 2).trans rfl; have hcz73_3 : w70.cell? ⟨gb184, 3, none⟩ = some (.int .i64 0) := (blk_cell BK184.out 3).trans rfl; have hcz73_4 : w70.cell? ⟨gb184, 4, none⟩ = some (.int .i64 0) := (blk_cell BK184.out 4).trans rfl; have hcz73_5 : w70.cell? ⟨gb184, 5, none⟩ = some (.int .i64 0) := (blk_cell BK184.out 5).trans rfl; have hcz73_6 : w70.cell? ⟨gb184, 6, none⟩ = some (.int .i64 0) := (blk_cell BK184.out 6).trans rfl; have hfz73_0 := blk_frozen BK184.out 0; have hfz73_1 := blk_frozen BK184.out 1; have hfz73_2 := blk_frozen BK184.out 2; have hfz73_3 := blk_frozen BK184.out 3; have hfz73_4 := blk_frozen BK184.out 4; have hfz73_5 := blk_frozen BK184.out 5; have hfz73_6 := blk_frozen BK184.out 6; have hnb74 := NB159_171.out; have hnc74 := NB171_159.out; have hcz75_0 : w70.cell? ⟨gb159, 0, none⟩ = some (.int .i64 a0_0) := (blk_cell BK159.out 0).trans rfl; have hcz75_1 : w70.cell? ⟨gb159, 1, none⟩ = some (.int .u64 a0_1) := (blk_cell BK159.out 1).trans rfl; have hcz75_2 : w70.cell? ⟨gb159, 2, none⟩ = some (.int .i64 a0_2) := (blk_cell BK159.out 2).trans rfl; have hcz75_3 : w70.cell? ⟨gb159, 3, none⟩ = some (.int .i64 a0_3) := (blk_cell BK159.out 3).trans rfl; have hcz75_4 : w70.cell? ⟨gb159, 4, none⟩ = some (.int .i64 a0_4) := (blk_cell BK159.out 4).trans rfl; have hcz75_5 : w70.cell? ⟨gb159, 5, none⟩ = some (.int .i64 a0_5) := (blk_cell BK159.out 5).trans rfl; have hcz75_6 : w70.cell? ⟨gb159, 6, none⟩ = some (.int .i64 a0_6) := (blk_cell BK159.out 6).trans rfl; have hfz75_0 := blk_frozen BK159.out 0; have hfz75_1 := blk_frozen BK159.out 1; have hfz75_2 := blk_frozen BK159.out 2; have hfz75_3 := blk_frozen BK159.out 3; have hfz75_4 := blk_frozen BK159.out 4; have hfz75_5 := blk_frozen BK159.out 5; have hfz75_6 := blk_frozen BK159.out 6))
           go_ret
           exact ⟨by first | rfl | (simp [errW_none, errW_some] <;> rfl) | (simp [*, errW_none, errW_some] <;> rfl), by repeat (first | (with_reducible first | exact HB.out | apply below_alloc | apply pw_below_drewN | apply below_drew1 | refine below_set ?_ GE159.out | refine below_set ?_ GE171.out | refine below_set ?_ GE184.out) | exact HB.out)⟩
         ·rw [if_neg c35] at H
          have c35b0 : (t183 == 0) = false := beq_eq_false_iff_ne.mpr c35
          have c35b1 : (t183 != 0) = true := bne_iff_ne.mpr c35
          replace H := Option.bind_eq_some_iff.mp H
          obtain ⟨t187, A760, H⟩ := H
          replace H : (some t187) = some r := H
          have A76 := Aside0.mk A760
          clear A760
          clear hr_
          obtain rfl := Option.some.inj H
          try go_wp2_with (first | ((with_reducible refine gate_callee (f := 12) rfl ?_); refine goesL_ (some 45) rfl rfl Tryd.func12 (by kernel_rfl) rfl #[.int .i64 a1, .int .i64 (wrap64 ((t160.size : Int) + 1))] rfl (by (try simp only [List.map_toArray, List.map_cons, List.map_nil]); first | done | rfl | (simp only [List.length_drop, List.length_take]; rfl)) ?_; (with_reducible refine (lockkeeperlaw0_Low.calls a1 (wrap64 ((t160.size : Int) + 1)) t172 _ A27.out).mono ?_); rintro e w' ⟨rfl, ⟨nd, rfl⟩⟩; refine ⟨_, rfl, ?_⟩; (try (rw [drewN_self wc]; generalize hq_ : World.drewN wc _ = wc; have n0_ : Aside0 (wc.heap[gb159]? = some (.cells #[.int .i64 a0_0, .int .u64 a0_1, .int .i64 a0_2, .int .i64 a0_3, .int .i64 a0_4, .int .i64 a0_5, .int .i64 a0_6] 24 (0, 0))) := ⟨by rw [← hq_]; exact (by (with_reducible repeat (first | refine blk_drewN ?_ _ | refine blk_drew ?_ | refine blk_alloc ?_ _)); exact BK159.out)⟩; have n1_ : Aside0 (wc.heap[gb171]? = some (.cells #[.int .i64 t163, .int .u64 t164, .int .i64 t165, .int .i64 t166, .int .i64 t167, .int .i64 t168, .int .i64 t169] 24 (0, 0))) := ⟨by rw [← hq_]; exact (by (with_reducible repeat (first | refine blk_drewN ?_ _ | refine blk_drew ?_ | refine blk_alloc ?_ _)); exact BK171.out)⟩; have n2_ : Aside0 (Below w.heap.size w wc) := ⟨by rw [← hq_]; exact (by repeat (first | (with_reducible first | exact HB.out | apply below_alloc | apply pw_below_drewN | apply below_drew1 | refine below_set ?_ GE159.out | refine below_set ?_ GE171.out) | exact HB.out))⟩; clear BK159 BK171 HB hq_; have BK159 := n0_; have BK171 := n1_; have HB := n2_; clear n0_ n1_ n2_))))
          have n0_ := Aside0.mk (blk_drew BK159.out)
          have n1_ := Aside0.mk (blk_drew BK171.out)
          have n2_ := Aside0.mk (below_drew1 HB.out)
          clear BK159
          clear BK171
          clear HB
          have BK159 := n0_
          have BK171 := n1_
          have HB := n2_
          clear n0_ n1_ n2_
          refine start_ (n := 12) (S := fun w' => True) (ds := []) #[false, false, false, false, false, false, false, false, false, false, false, false] (by kernel_rfl) rfl rfl trivial (fun hHeld => ?_); refine with_tabW lockkeeperlaw24_NoteBack.tab8 lockkeeperlaw24_NoteBack.bits8 (fun HT_ HW_ => ?_)
          generalize wc.drew = w77 at BK159 BK171 HB hHeld ⊢
          refine pure_ (i := 0) (N := some 46) (v := ?_) (a' := ?_) #[true, false, false, false, false, false, false, false, false, false, false, false] rfl rfl (any_of HT_.out (by kernel_rfl)) (fun _ _ _ h => h) (Or.inl ⟨by rfl, ?_⟩) ?_ ?_
          rotate_left
          ·intro w'
           go_simp
           with_reducible rfl
          rotate_left
          ·simp only [Act.put, List.setIfInBounds_toArray, List.set_cons_zero, List.set_cons_succ, i64_w, i32_w]
           rfl
          refine pure_ (i := 1) (N := some 47) (v := ?_) (a' := ?_) #[true, true, false, false, false, false, false, false, false, false, false, false] rfl rfl (any_of HT_.out (by kernel_rfl)) (fun _ _ _ h => h) (Or.inl ⟨by rfl, ?_⟩) ?_ ?_
          rotate_left
          ·intro w'
           go_simp
           with_reducible rfl
          rotate_left
          ·simp only [Act.put, List.setIfInBounds_toArray, List.set_cons_zero, List.set_cons_succ, i64_w, i32_w]
           rfl
          refine pure_ (i := 2) (N := some 48) (v := ?_) (a' := ?_) #[true, true, true, false, false, false, false, false, false, false, false, false] rfl rfl (any_of HT_.out (by kernel_rfl)) (fun _ _ _ h => h) (Or.inl ⟨by rfl, ?_⟩) ?_ ?_
          rotate_left
          ·intro w'
           go_simp
           with_reducible rfl
          rotate_left
          ·simp only [Act.put, List.setIfInBounds_toArray, List.set_cons_zero, List.set_cons_succ, i64_w, i32_w]
           rfl
          refine pure_ (i := 3) (N := some 49) (v := ?_) (a' := ?_) #[true, true, true, true, false, false, false, false, false, false, false, false] rfl rfl (any_of HT_.out (by kernel_rfl)) (fun _ _ _ h => h) (Or.inl ⟨by rfl, ?_⟩) ?_ ?_
          rotate_left
          ·intro w'
           go_simp
           with_reducible rfl
          rotate_left
          ·simp only [Act.put, List.setIfInBounds_toArray, List.set_cons_zero, List.set_cons_succ, i64_w, i32_w]
           rfl
          refine pure_ (i := 7) (N := some 53) (v := ?_) (a' := ?_) #[true, true, true, true, false, false, false, true, false, false, false, false] rfl rfl (any_of HT_.out (by kernel_rfl)) (fun _ _ _ h => h) (Or.inl ⟨by rfl, ?_⟩) ?_ ?_
          rotate_left
          ·intro w'
           go_simp
           with_reducible rfl
          rotate_left
          ·simp only [Act.put, List.setIfInBounds_toArray, List.set_cons_zero, List.set_cons_succ, i64_w, i32_w]
           rfl
          refine pure_ (i := 8) (N := some 54) (v := ?_) (a' := ?_) #[true, true, true, true, false, false, false, true, true, false, false, false] rfl rfl (any_of HT_.out (by kernel_rfl)) (fun _ _ _ h => h) (Or.inl ⟨by rfl, ?_⟩) ?_ ?_
          rotate_left
          ·intro w'
           go_simp
           with_reducible rfl
          rotate_left
          ·simp only [Act.put, List.setIfInBounds_toArray, List.set_cons_zero, List.set_cons_succ, i64_w, i32_w]
           rfl
          refine pure_ (i := 9) (N := some 55) (v := ?_) (a' := ?_) #[true, true, true, true, false, false, false, true, true, true, false, false] rfl rfl (any_of HT_.out (by kernel_rfl)) (fun _ _ _ h => h) (Or.inl ⟨by rfl, ?_⟩) ?_ ?_
          rotate_left
          ·intro w'
           go_simp
           with_reducible rfl
          rotate_left
          ·simp only [Act.put, List.setIfInBounds_toArray, List.set_cons_zero, List.set_cons_succ, i64_w, i32_w]
           rfl
          refine one_ (i := 4) (N := some 50) #[true, true, true, true, true, false, false, true, true, true, false, false] rfl rfl (one_of HT_.out (by kernel_rfl)) (by decide) (fun K hK => ?_)
          refine Kd.R_lit_step (Kd.int .u8) _ 5 ?hg (N := 50) ?hd (xs := ([a2] : List Int)) (inner := [.int .u8 a2]) (ok := fun _ => True) (okp := fun _ => True) ?hr ?hp (fun _ hk => hk) trivial (Below.refl _ _) (Nat.le_refl _) (by simp) ?_; (case hd => rfl); (case hg => rfl); (case hr => first | (go_simp; done) | (go_simp; rfl)); (case hp => exact (Reps.one (show Kd.M (Kd.int .u8) _ _ _ a2 [.int .u8 a2] from rfl) (Reps.none _ _)))
          intro v174 w78 ho79 hb hg_ hnew_
          clear hg_ hnew_
          (first | rw [← Ny173.out] at ho79 | (simp only [Int.reduceToNat] at ho79; rw [← Ny173.out] at ho79))
          have n0_ := Aside0.mk (Kd.R_lower ho79 (below_size (by repeat (first | (with_reducible first | exact HB.out | apply below_alloc | apply pw_below_drewN | apply below_drew1 | refine below_set ?_ GE159.out | refine below_set ?_ GE171.out) | exact HB.out))))
          have n1_ := Aside0.mk (blk_below (g := gb159) (o := .cells #[.int .i64 a0_0, .int .u64 a0_1, .int .i64 a0_2, .int .i64 a0_3, .int .i64 a0_4, .int .i64 a0_5, .int .i64 a0_6] 24 (0, 0)) (by (with_reducible repeat (first | refine blk_drewN ?_ _ | refine blk_drew ?_ | refine blk_alloc ?_ _)); exact BK159.out) hb)
          have n2_ := Aside0.mk (blk_below (g := gb171) (o := .cells #[.int .i64 t163, .int .u64 t164, .int .i64 t165, .int .i64 t166, .int .i64 t167, .int .i64 t168, .int .i64 t169] 24 (0, 0)) (by (with_reducible repeat (first | refine blk_drewN ?_ _ | refine blk_drew ?_ | refine blk_alloc ?_ _)); exact BK171.out) hb)
          have n3_ := Aside0.mk (below_step (by repeat (first | (with_reducible first | exact HB.out | apply below_alloc | apply pw_below_drewN | apply below_drew1 | refine below_set ?_ GE159.out | refine below_set ?_ GE171.out) | exact HB.out)) hb)
          clear BK159
          clear BK171
          clear HB
          have HO175 := n0_
          have BK159 := n1_
          have BK171 := n2_
          have HB := n3_
          clear n0_ n1_ n2_ n3_
          clear hb ho79
          refine hK.out _ _ trivial (fun hHeld => ?_)
          clear hK K
          refine norm_ (a' := ?_) ?_ ?_
          rotate_left
          ·show Act.put _ (some 50) _ = _
           simp only [Act.put, List.setIfInBounds_toArray, List.set_cons_zero, List.set_cons_succ, i64_w, i32_w]
           rfl
          refine one_ (i := 5) (N := some 51) #[true, true, true, true, true, true, false, true, true, true, false, false] rfl rfl (one_of HT_.out (by kernel_rfl)) (by decide) (fun K hK => ?_)
          have hcv80 := own_string (P := Tryd.prog) Tryd.underlying32 Tryd.underlying5 Tryd.underlying9 (Kd.own_of_R HO175.out)
          refine value_ (w1 := ?_) (v := ?_) (by rfl) rfl ?_ ?_
          rotate_left 2
          ·go_simp
           constructor
           ·rfl
           ·rfl
          clear hcv80
          refine hK.out _ _ trivial (fun hHeld => ?_)
          clear hK K
          refine norm_ (a' := ?_) ?_ ?_
          rotate_left
          ·show Act.put _ (some 51) _ = _
           simp only [Act.put, List.setIfInBounds_toArray, List.set_cons_zero, List.set_cons_succ, i64_w, i32_w]
           rfl
          refine pure_ (i := 6) (N := some 52) (v := ?_) (a' := ?_) #[true, true, true, true, true, true, true, true, true, true, false, false] rfl rfl (any_of HT_.out (by kernel_rfl)) (fun _ _ _ h => h) (Or.inl ⟨by rfl, ?_⟩) ?_ ?_
          rotate_left
          ·intro w'
           go_simp
           with_reducible rfl
          rotate_left
          ·simp only [Act.put, List.setIfInBounds_toArray, List.set_cons_zero, List.set_cons_succ, i64_w, i32_w]
           rfl
          refine pure_ (i := 10) (N := some 56) (v := ?_) (a' := ?_) #[true, true, true, true, true, true, true, true, true, true, true, false] rfl rfl (any_of HT_.out (by kernel_rfl)) (fun _ _ _ h => h) (Or.inl ⟨by rfl, ?_⟩) ?_ ?_
          rotate_left
          ·intro w'
           go_simp
           with_reducible rfl
          rotate_left
          ·simp only [Act.put, List.setIfInBounds_toArray, List.set_cons_zero, List.set_cons_succ, i64_w, i32_w]
           rfl
          refine pure_ (i := 11) (N := some 11) (v := ?_) (a' := ?_) #[true, true, true, true, true, true, true, true, true, true, true, true] rfl rfl (any_of HT_.out (by kernel_rfl)) (fun _ _ _ h => h) (Or.inl ⟨by rfl, ?_⟩) ?_ ?_
          rotate_left
          ·intro w'
           go_simp
           with_reducible rfl
          rotate_left
          ·simp only [Act.put, List.setIfInBounds_toArray, List.set_cons_zero, List.set_cons_succ, i64_w, i32_w]
           rfl
          refine done_ (done_of HT_.out (by kernel_rfl)) ?_
          try go_wp2_with (first | ((with_reducible refine gate_callee (f := 11) rfl ?_); refine goesL_ (some 59) rfl rfl Tryd.func11 (by kernel_rfl) rfl #[.string (((t160.extract 0 (t172 : Int).toNat) ++ (strOfNums y173)) ++ (t160.extract (t172 : Int).toNat t160.size))] rfl (by (try simp only [List.map_toArray, List.map_cons, List.map_nil]); first | done | rfl | (simp only [List.length_drop, List.length_take]; rfl)) ?_; (with_reducible refine (note_Read.calls kj7 (((t160.extract 0 (t172 : Int).toNat) ++ (strOfNums y173)) ++ (t160.extract (t172 : Int).toNat t160.size)) t176 t177 t178 t179 t180 t181 t182 t183 _ ?side1 A34.out).mono ?_); (case side1 => exact ⟨by repeat (first | (with_reducible exact hM_.out) | (with_reducible exact LaidW.below hM_.out HB.out) | (with_reducible refine LaidW.alloc ?_ _) | (with_reducible refine LaidW.drewN ?_ _) | (with_reducible refine LaidW.drew ?_) | exact LaidW.below hM_.out (by repeat (first | (with_reducible first | exact HB.out | apply below_alloc | apply pw_below_drewN | apply below_drew1 | refine below_set ?_ GE159.out | refine below_set ?_ GE171.out) | exact HB.out)))⟩); rintro e w81 ⟨rfl, hb⟩; refine ⟨_, rfl, ?_⟩; have n0_ := Aside0.mk (Kd.R_below (by (with_reducible repeat (first | apply Kd.R_alloc | apply Kd.R_drewN | apply Kd.R_drew)); exact HO175.out) hb); have n1_ := Aside0.mk (blk_below (g := gb159) (o := .cells #[.int .i64 a0_0, .int .u64 a0_1, .int .i64 a0_2, .int .i64 a0_3, .int .i64 a0_4, .int .i64 a0_5, .int .i64 a0_6] 24 (0, 0)) (by (with_reducible repeat (first | refine blk_drewN ?_ _ | refine blk_drew ?_ | refine blk_alloc ?_ _)); exact BK159.out) hb); have n2_ := Aside0.mk (blk_below (g := gb171) (o := .cells #[.int .i64 t163, .int .u64 t164, .int .i64 t165, .int .i64 t166, .int .i64 t167, .int .i64 t168, .int .i64 t169] 24 (0, 0)) (by (with_reducible repeat (first | refine blk_drewN ?_ _ | refine blk_drew ?_ | refine blk_alloc ?_ _)); exact BK171.out) hb); have n3_ := Aside0.mk (below_step (by repeat (first | (with_reducible first | exact HB.out | apply below_alloc | apply pw_below_drewN | apply below_drew1 | refine below_set ?_ GE159.out | refine below_set ?_ GE171.out) | exact HB.out)) hb); clear HO175; clear BK159; clear BK171; clear HB; have HO175 := n0_; have BK159 := n1_; have BK171 := n2_; have HB := n3_; clear n0_ n1_ n2_ n3_; (try clear hb); (try clear hb2); (try clear hk); (try clear hi)) | ((with_reducible refine gate_dst (N := 12) rfl ?_); (try (refine gate_guard (by rfl) ?_; dsimp only)); refine box_event ?hg (N := 12) ?hd (cs := #[.int .i64 0, .int .u64 0, .int .i64 0, .int .i64 0, .int .i64 0, .int .i64 0, .int .i64 0]) (t := 24) ?hr ?_; (case hd => rfl); (case hg => rfl); (case hr => first | (go_simp; done) | (go_simp; rfl)); intro gb184 hg w82 hbox hb; have n0_ := Aside0.mk (Kd.R_below (by (with_reducible repeat (first | apply Kd.R_alloc | apply Kd.R_drewN | apply Kd.R_drew)); exact HO175.out) hb); have n1_ := Aside0.mk (blk_below (g := gb159) (o := .cells #[.int .i64 a0_0, .int .u64 a0_1, .int .i64 a0_2, .int .i64 a0_3, .int .i64 a0_4, .int .i64 a0_5, .int .i64 a0_6] 24 (0, 0)) (by (with_reducible repeat (first | refine blk_drewN ?_ _ | refine blk_drew ?_ | refine blk_alloc ?_ _)); exact BK159.out) hb); have n2_ := Aside0.mk (blk_below (g := gb171) (o := .cells #[.int .i64 t163, .int .u64 t164, .int .i64 t165, .int .i64 t166, .int .i64 t167, .int .i64 t168, .int .i64 t169] 24 (0, 0)) (by (with_reducible repeat (first | refine blk_drewN ?_ _ | refine blk_drew ?_ | refine blk_alloc ?_ _)); exact BK171.out) hb); have n3_ := Aside0.mk (below_step (by repeat (first | (with_reducible first | exact HB.out | apply below_alloc | apply pw_below_drewN | apply below_drew1 | refine below_set ?_ GE159.out | refine below_set ?_ GE171.out) | exact HB.out)) hb); have n4_ := Aside0.mk (hbox); have n5_ := Aside0.mk ((by rw [hg]; exact (below_size (by repeat (first | (with_reducible first | exact HB.out | apply below_alloc | apply pw_below_drewN | apply below_drew1 | refine below_set ?_ GE159.out | refine below_set ?_ GE171.out) | exact HB.out))) : w.heap.size ≤ gb184)); have n6_ := Aside0.mk ((by rw [hg]; exact (below_size (by repeat (first | (with_reducible first | exact HB.out | apply below_alloc | apply pw_below_drewN | apply below_drew1 | refine below_set ?_ GE159.out | refine below_set ?_ GE171.out) | exact HB.out))) : w.heap.size ≤ gb184)); have n7_ := Aside0.mk ((by rw [hg]; exact Nat.ne_of_lt (blk_lt (g := gb159) (o := .cells #[.int .i64 a0_0, .int .u64 a0_1, .int .i64 a0_2, .int .i64 a0_3, .int .i64 a0_4, .int .i64 a0_5, .int .i64 a0_6] 24 (0, 0)) (by (with_reducible repeat (first | refine blk_drewN ?_ _ | refine blk_drew ?_ | refine blk_alloc ?_ _)); exact BK159.out)) : gb159 ≠ gb184)); have n8_ := Aside0.mk ((by rw [hg]; exact Nat.ne_of_gt (blk_lt (g := gb159) (o := .cells #[.int .i64 a0_0, .int .u64 a0_1, .int .i64 a0_2, .int .i64 a0_3, .int .i64 a0_4, .int .i64 a0_5, .int .i64 a0_6] 24 (0, 0)) (by (with_reducible repeat (first | refine blk_drewN ?_ _ | refine blk_drew ?_ | refine blk_alloc ?_ _)); exact BK159.out)) : gb184 ≠ gb159)); have n9_ := Aside0.mk ((by rw [hg]; exact Nat.ne_of_lt (blk_lt (g := gb171) (o := .cells #[.int .i64 t163, .int .u64 t164, .int .i64 t165, .int .i64 t166, .int .i64 t167, .int .i64 t168, .int .i64 t169] 24 (0, 0)) (by (with_reducible repeat (first | refine blk_drewN ?_ _ | refine blk_drew ?_ | refine blk_alloc ?_ _)); exact BK171.out)) : gb171 ≠ gb184)); have n10_ := Aside0.mk ((by rw [hg]; exact Nat.ne_of_gt (blk_lt (g := gb171) (o := .cells #[.int .i64 t163, .int .u64 t164, .int .i64 t165, .int .i64 t166, .int .i64 t167, .int .i64 t168, .int .i64 t169] 24 (0, 0)) (by (with_reducible repeat (first | refine blk_drewN ?_ _ | refine blk_drew ?_ | refine blk_alloc ?_ _)); exact BK171.out)) : gb184 ≠ gb171)); clear HO175; clear BK159; clear BK171; clear HB; have HO175 := n0_; have BK159 := n1_; have BK171 := n2_; have HB := n3_; have BK184 := n4_; have GW184 := n5_; have GE184 := n6_; have NB159_184 := n7_; have NB184_159 := n8_; have NB171_184 := n9_; have NB184_171 := n10_; clear n0_ n1_ n2_ n3_ n4_ n5_ n6_ n7_ n8_ n9_ n10_; clear hb hbox hg; have hnb83 := NB184_159.out; have hnc83 := NB159_184.out; have hnb84 := NB184_171.out; have hnc84 := NB171_184.out; have hcz85_0 : w82.cell? ⟨gb184, 0, none⟩ = some (.int .i64 0) := (blk_cell BK184.out 0).trans rfl; have hcz85_1 : w82.cell? ⟨gb184, 1, none⟩ = some (.int .u64 0) := (blk_cell BK184.out 1).trans rfl; have hcz85_2 : w82.cell? ⟨gb184, 2, none⟩ = some (.int .i64 0) := (blk_cell BK184.out 2).trans rfl; have hcz85_3 : w82.cell? ⟨gb184, 3, none⟩ = some (.int .i64 0) := (blk_cell BK184.out 3).trans rfl; have hcz85_4 : w82.cell? ⟨gb184, 4, none⟩ = some (.int .i64 0) := (blk_cell BK184.out 4).trans rfl; have hcz85_5 : w82.cell? ⟨gb184, 5, none⟩ = some (.int .i64 0) := (blk_cell BK184.out 5).trans rfl; have hcz85_6 : w82.cell? ⟨gb184, 6, none⟩ = some (.int .i64 0) := (blk_cell BK184.out 6).trans rfl; have hfz85_0 := blk_frozen BK184.out 0; have hfz85_1 := blk_frozen BK184.out 1; have hfz85_2 := blk_frozen BK184.out 2; have hfz85_3 := blk_frozen BK184.out 3; have hfz85_4 := blk_frozen BK184.out 4; have hfz85_5 := blk_frozen BK184.out 5; have hfz85_6 := blk_frozen BK184.out 6) | (go_at_call 10; (with_reducible refine (lockkeeperlaw24_awake.calls kj7  t187 _ ?side1 A76.out).mono ?_); (case side1 => exact ⟨by repeat (first | (with_reducible exact hM_.out) | (with_reducible exact LaidW.below hM_.out HB.out) | (with_reducible refine LaidW.alloc ?_ _) | (with_reducible refine LaidW.drewN ?_ _) | (with_reducible refine LaidW.drew ?_) | exact LaidW.below hM_.out (by repeat (first | (with_reducible first | exact HB.out | apply below_alloc | apply pw_below_drewN | apply below_drew1 | refine below_set ?_ GE159.out | refine below_set ?_ GE171.out | refine below_set ?_ GE184.out) | exact HB.out)))⟩); rintro e w86 ⟨rfl, hb⟩; have n0_ := Aside0.mk (Kd.R_below (by (with_reducible repeat (first | apply Kd.R_alloc | apply Kd.R_drewN | apply Kd.R_drew)); exact (Kd.R_mono (Kd.R_far (p := ⟨gb184, 6, none⟩) (Kd.R_far (p := ⟨gb184, 5, none⟩) (Kd.R_far (p := ⟨gb184, 4, none⟩) (Kd.R_far (p := ⟨gb184, 3, none⟩) (Kd.R_far (p := ⟨gb184, 2, none⟩) (Kd.R_far (p := ⟨gb184, 1, none⟩) (Kd.R_far (p := ⟨gb184, 0, none⟩) (Kd.R_types HO175.out BK184.out (by decide)) (fun _ hk => hk.2) (.int .i64 t176)) (fun _ hk => hk.2) (.int .u64 t177)) (fun _ hk => hk.2) (.int .i64 t178)) (fun _ hk => hk.2) (.int .i64 t179)) (fun _ hk => hk.2) (.int .i64 t180)) (fun _ hk => hk.2) (.int .i64 t181)) (fun _ hk => hk.2) (.int .i64 t182)) (fun _ h_ => h_.1))) hb); have n1_ := Aside0.mk (blk_below (g := gb159) (o := .cells #[.int .i64 a0_0, .int .u64 a0_1, .int .i64 a0_2, .int .i64 a0_3, .int .i64 a0_4, .int .i64 a0_5, .int .i64 a0_6] 24 (0, 0)) (by (with_reducible repeat (first | refine blk_drewN ?_ _ | refine blk_drew ?_ | refine blk_alloc ?_ _)); refine blk_far ?_ NB159_184.out _; (with_reducible repeat (first | refine blk_drewN ?_ _ | refine blk_drew ?_ | refine blk_alloc ?_ _)); refine blk_far ?_ NB159_184.out _; (with_reducible repeat (first | refine blk_drewN ?_ _ | refine blk_drew ?_ | refine blk_alloc ?_ _)); refine blk_far ?_ NB159_184.out _; (with_reducible repeat (first | refine blk_drewN ?_ _ | refine blk_drew ?_ | refine blk_alloc ?_ _)); refine blk_far ?_ NB159_184.out _; (with_reducible repeat (first | refine blk_drewN ?_ _ | refine blk_drew ?_ | refine blk_alloc ?_ _)); refine blk_far ?_ NB159_184.out _; (with_reducible repeat (first | refine blk_drewN ?_ _ | refine blk_drew ?_ | refine blk_alloc ?_ _)); refine blk_far ?_ NB159_184.out _; (with_reducible repeat (first | refine blk_drewN ?_ _ | refine blk_drew ?_ | refine blk_alloc ?_ _)); refine blk_far ?_ NB159_184.out _; (with_reducible repeat (first | refine blk_drewN ?_ _ | refine blk_drew ?_ | refine blk_alloc ?_ _)); exact BK159.out) hb); have n2_ := Aside0.mk (blk_below (g := gb171) (o := .cells #[.int .i64 t163, .int .u64 t164, .int .i64 t165, .int .i64 t166, .int .i64 t167, .int .i64 t168, .int .i64 t169] 24 (0, 0)) (by (with_reducible repeat (first | refine blk_drewN ?_ _ | refine blk_drew ?_ | refine blk_alloc ?_ _)); refine blk_far ?_ NB171_184.out _; (with_reducible repeat (first | refine blk_drewN ?_ _ | refine blk_drew ?_ | refine blk_alloc ?_ _)); refine blk_far ?_ NB171_184.out _; (with_reducible repeat (first | refine blk_drewN ?_ _ | refine blk_drew ?_ | refine blk_alloc ?_ _)); refine blk_far ?_ NB171_184.out _; (with_reducible repeat (first | refine blk_drewN ?_ _ | refine blk_drew ?_ | refine blk_alloc ?_ _)); refine blk_far ?_ NB171_184.out _; (with_reducible repeat (first | refine blk_drewN ?_ _ | refine blk_drew ?_ | refine blk_alloc ?_ _)); refine blk_far ?_ NB171_184.out _; (with_reducible repeat (first | refine blk_drewN ?_ _ | refine blk_drew ?_ | refine blk_alloc ?_ _)); refine blk_far ?_ NB171_184.out _; (with_reducible repeat (first | refine blk_drewN ?_ _ | refine blk_drew ?_ | refine blk_alloc ?_ _)); refine blk_far ?_ NB171_184.out _; (with_reducible repeat (first | refine blk_drewN ?_ _ | refine blk_drew ?_ | refine blk_alloc ?_ _)); exact BK171.out) hb); have n3_ := Aside0.mk (blk_below (g := gb184) (o := .cells #[.int .i64 t176, .int .u64 t177, .int .i64 t178, .int .i64 t179, .int .i64 t180, .int .i64 t181, .int .i64 t182] 24 (0, 0)) (by (with_reducible repeat (first | refine blk_drewN ?_ _ | refine blk_drew ?_ | refine blk_alloc ?_ _)); refine blk_put (cs := #[.int .i64 t176, .int .u64 t177, .int .i64 t178, .int .i64 t179, .int .i64 t180, .int .i64 t181, .int .i64 0]) ?_ 6 _ rfl; (with_reducible repeat (first | refine blk_drewN ?_ _ | refine blk_drew ?_ | refine blk_alloc ?_ _)); refine blk_put (cs := #[.int .i64 t176, .int .u64 t177, .int .i64 t178, .int .i64 t179, .int .i64 t180, .int .i64 0, .int .i64 0]) ?_ 5 _ rfl; (with_reducible repeat (first | refine blk_drewN ?_ _ | refine blk_drew ?_ | refine blk_alloc ?_ _)); refine blk_put (cs := #[.int .i64 t176, .int .u64 t177, .int .i64 t178, .int .i64 t179, .int .i64 0, .int .i64 0, .int .i64 0]) ?_ 4 _ rfl; (with_reducible repeat (first | refine blk_drewN ?_ _ | refine blk_drew ?_ | refine blk_alloc ?_ _)); refine blk_put (cs := #[.int .i64 t176, .int .u64 t177, .int .i64 t178, .int .i64 0, .int .i64 0, .int .i64 0, .int .i64 0]) ?_ 3 _ rfl; (with_reducible repeat (first | refine blk_drewN ?_ _ | refine blk_drew ?_ | refine blk_alloc ?_ _)); refine blk_put (cs := #[.int .i64 t176, .int .u64 t177, .int .i64 0, .int .i64 0, .int .i64 0, .int .i64 0, .int .i64 0]) ?_ 2 _ rfl; (with_reducible repeat (first | refine blk_drewN ?_ _ | refine blk_drew ?_ | refine blk_alloc ?_ _)); refine blk_put (cs := #[.int .i64 t176, .int .u64 0, .int .i64 0, .int .i64 0, .int .i64 0, .int .i64 0, .int .i64 0]) ?_ 1 _ rfl; (with_reducible repeat (first | refine blk_drewN ?_ _ | refine blk_drew ?_ | refine blk_alloc ?_ _)); refine blk_put (cs := #[.int .i64 0, .int .u64 0, .int .i64 0, .int .i64 0, .int .i64 0, .int .i64 0, .int .i64 0]) ?_ 0 _ rfl; (with_reducible repeat (first | refine blk_drewN ?_ _ | refine blk_drew ?_ | refine blk_alloc ?_ _)); exact BK184.out) hb); have n4_ := Aside0.mk (below_step (by repeat (first | (with_reducible first | exact HB.out | apply below_alloc | apply pw_below_drewN | apply below_drew1 | refine below_set ?_ GE159.out | refine below_set ?_ GE171.out | refine below_set ?_ GE184.out) | exact HB.out)) hb); clear HO175; clear BK159; clear BK171; clear BK184; clear HB; have HO175 := n0_; have BK159 := n1_; have BK171 := n2_; have BK184 := n3_; have HB := n4_; clear n0_ n1_ n2_ n3_ n4_; (try clear hb); (try clear hb2); (try clear hk); (try clear hi)))
          go_ret
          exact ⟨by first | rfl | (simp [errW_none, errW_some] <;> rfl) | (simp [*, errW_none, errW_some] <;> rfl), by repeat (first | (with_reducible first | exact HB.out | apply below_alloc | apply pw_below_drewN | apply below_drew1 | refine below_set ?_ GE159.out | refine below_set ?_ GE171.out | refine below_set ?_ GE184.out) | exact HB.out)⟩
        ·rw [if_neg c33] at H
         exact absurd H (by simp)
       ·rw [if_neg c30] at H
        exact absurd H (by simp)
      ·rw [if_neg c29] at H
       exact absurd H (by simp)
     ·rw [if_neg c28] at H
      exact absurd H (by simp)
 ·replace c6 := Bool.eq_false_iff.mpr c6
  subst c6
  have H1 : (if t160.toList = ([] : List UInt8) then ((lockkeeperlaw24_awake.f k).bind fun t162 => (some t162)) else (some false)) = some r := by rw [if_neg (show ¬ (false = true) by decide)] at H; exact H
  clear H
  have H := H1
  clear H1
  by_cases c87 : t160.toList = ([] : List UInt8)
  ·rw [if_pos c87] at H
   have c87b0 : (t160.toList == ([] : List UInt8)) = true := beq_iff_eq.mpr c87
   have c87b1 : (t160.toList != ([] : List UInt8)) = false := bne_eq_false_iff_eq.mpr c87
   clear c87
   replace H := Option.bind_eq_some_iff.mp H
   obtain ⟨t162, A880, H⟩ := H
   replace H : (some t162) = some r := H
   have A88 := Aside0.mk A880
   clear A880
   clear hr_
   obtain rfl := Option.some.inj H
   go_enter Tryd.func3, Tryd.ntmps3
   go_wp2_with (first | ((with_reducible refine gate_dst (N := 3) rfl ?_); (try (refine gate_guard (by rfl) ?_; dsimp only)); refine box_event ?hg (N := 3) ?hd (cs := #[.int .i64 a0_0, .int .u64 a0_1, .int .i64 a0_2, .int .i64 a0_3, .int .i64 a0_4, .int .i64 a0_5, .int .i64 a0_6]) (t := 24) ?hr ?_; (case hd => rfl); (case hg => rfl); (case hr => first | (go_simp; done) | (go_simp; rfl)); intro gb159 hg w89 hbox hb; have n0_ := Aside0.mk (below_step (by repeat (first | (with_reducible first | exact HB.out | apply below_alloc | apply pw_below_drewN | apply below_drew1) | exact HB.out)) hb); have n1_ := Aside0.mk (hbox); have n2_ := Aside0.mk ((by rw [hg]; exact (below_size (by repeat (first | (with_reducible first | exact HB.out | apply below_alloc | apply pw_below_drewN | apply below_drew1) | exact HB.out))) : w.heap.size ≤ gb159)); have n3_ := Aside0.mk ((by rw [hg]; exact (below_size (by repeat (first | (with_reducible first | exact HB.out | apply below_alloc | apply pw_below_drewN | apply below_drew1) | exact HB.out))) : w.heap.size ≤ gb159)); clear HB; have HB := n0_; have BK159 := n1_; have GW159 := n2_; have GE159 := n3_; clear n0_ n1_ n2_ n3_; clear hb hbox hg; have hcz90_0 : w89.cell? ⟨gb159, 0, none⟩ = some (.int .i64 a0_0) := (blk_cell BK159.out 0).trans rfl; have hcz90_1 : w89.cell? ⟨gb159, 1, none⟩ = some (.int .u64 a0_1) := (blk_cell BK159.out 1).trans rfl; have hcz90_2 : w89.cell? ⟨gb159, 2, none⟩ = some (.int .i64 a0_2) := (blk_cell BK159.out 2).trans rfl; have hcz90_3 : w89.cell? ⟨gb159, 3, none⟩ = some (.int .i64 a0_3) := (blk_cell BK159.out 3).trans rfl; have hcz90_4 : w89.cell? ⟨gb159, 4, none⟩ = some (.int .i64 a0_4) := (blk_cell BK159.out 4).trans rfl; have hcz90_5 : w89.cell? ⟨gb159, 5, none⟩ = some (.int .i64 a0_5) := (blk_cell BK159.out 5).trans rfl; have hcz90_6 : w89.cell? ⟨gb159, 6, none⟩ = some (.int .i64 a0_6) := (blk_cell BK159.out 6).trans rfl; have hfz90_0 := blk_frozen BK159.out 0; have hfz90_1 := blk_frozen BK159.out 1; have hfz90_2 := blk_frozen BK159.out 2; have hfz90_3 := blk_frozen BK159.out 3; have hfz90_4 := blk_frozen BK159.out 4; have hfz90_5 := blk_frozen BK159.out 5; have hfz90_6 := blk_frozen BK159.out 6) | ((with_reducible refine gate_callee (f := 8) rfl ?_); refine goesL_ (some 15) rfl rfl Tryd.func8 (by kernel_rfl) rfl #[.agg #[.int .i64 a0_0, .int .u64 a0_1, .int .i64 a0_2, .int .i64 a0_3, .int .i64 a0_4, .int .i64 a0_5, .int .i64 a0_6]] rfl (by (try simp only [List.map_toArray, List.map_cons, List.map_nil]); first | done | rfl | (simp only [List.length_drop, List.length_take]; rfl)) ?_; (with_reducible refine (note_Show.calls k a0_0 a0_1 a0_2 a0_3 a0_4 a0_5 a0_6 t160 _ ?side1 A4.out).mono ?_); (case side1 => exact ⟨by repeat (first | (with_reducible exact hM_.out) | (with_reducible exact LaidW.below hM_.out HB.out) | (with_reducible refine LaidW.alloc ?_ _) | (with_reducible refine LaidW.drewN ?_ _) | (with_reducible refine LaidW.drew ?_) | exact LaidW.below hM_.out (by repeat (first | (with_reducible first | exact HB.out | apply below_alloc | apply pw_below_drewN | apply below_drew1 | refine below_set ?_ GE159.out) | exact HB.out)))⟩); rintro e w91 ⟨rfl, hb⟩; refine ⟨_, rfl, ?_⟩; have n0_ := Aside0.mk (blk_below (g := gb159) (o := .cells #[.int .i64 a0_0, .int .u64 a0_1, .int .i64 a0_2, .int .i64 a0_3, .int .i64 a0_4, .int .i64 a0_5, .int .i64 a0_6] 24 (0, 0)) (by (with_reducible repeat (first | refine blk_drewN ?_ _ | refine blk_drew ?_ | refine blk_alloc ?_ _)); exact BK159.out) hb); have n1_ := Aside0.mk (below_step (by repeat (first | (with_reducible first | exact HB.out | apply below_alloc | apply pw_below_drewN | apply below_drew1 | refine below_set ?_ GE159.out) | exact HB.out)) hb); clear BK159; clear HB; have BK159 := n0_; have HB := n1_; clear n0_ n1_; (try clear hb); (try clear hb2); (try clear hk); (try clear hi); have hcz92_0 : w91.cell? ⟨gb159, 0, none⟩ = some (.int .i64 a0_0) := (blk_cell BK159.out 0).trans rfl; have hcz92_1 : w91.cell? ⟨gb159, 1, none⟩ = some (.int .u64 a0_1) := (blk_cell BK159.out 1).trans rfl; have hcz92_2 : w91.cell? ⟨gb159, 2, none⟩ = some (.int .i64 a0_2) := (blk_cell BK159.out 2).trans rfl; have hcz92_3 : w91.cell? ⟨gb159, 3, none⟩ = some (.int .i64 a0_3) := (blk_cell BK159.out 3).trans rfl; have hcz92_4 : w91.cell? ⟨gb159, 4, none⟩ = some (.int .i64 a0_4) := (blk_cell BK159.out 4).trans rfl; have hcz92_5 : w91.cell? ⟨gb159, 5, none⟩ = some (.int .i64 a0_5) := (blk_cell BK159.out 5).trans rfl; have hcz92_6 : w91.cell? ⟨gb159, 6, none⟩ = some (.int .i64 a0_6) := (blk_cell BK159.out 6).trans rfl; have hfz92_0 := blk_frozen BK159.out 0; have hfz92_1 := blk_frozen BK159.out 1; have hfz92_2 := blk_frozen BK159.out 2; have hfz92_3 := blk_frozen BK159.out 3; have hfz92_4 := blk_frozen BK159.out 4; have hfz92_5 := blk_frozen BK159.out 5; have hfz92_6 := blk_frozen BK159.out 6) | ((with_reducible refine gate_callee (f := 9) rfl ?_); refine goesL_ (some 17) rfl rfl Tryd.func9 (by kernel_rfl) rfl #[.agg #[.int .i64 a0_0, .int .u64 a0_1, .int .i64 a0_2, .int .i64 a0_3, .int .i64 a0_4, .int .i64 a0_5, .int .i64 a0_6]] rfl (by (try simp only [List.map_toArray, List.map_cons, List.map_nil]); first | done | rfl | (simp only [List.length_drop, List.length_take]; rfl)) ?_; (with_reducible refine (note_Check.calls a0_0 a0_1 a0_2 a0_3 a0_4 a0_5 a0_6 false _ A5.out).mono ?_); rintro e w93 ⟨rfl, hb⟩; refine ⟨_, rfl, ?_⟩; have n0_ := Aside0.mk (blk_below (g := gb159) (o := .cells #[.int .i64 a0_0, .int .u64 a0_1, .int .i64 a0_2, .int .i64 a0_3, .int .i64 a0_4, .int .i64 a0_5, .int .i64 a0_6] 24 (0, 0)) (by (with_reducible repeat (first | refine blk_drewN ?_ _ | refine blk_drew ?_ | refine blk_alloc ?_ _)); exact BK159.out) hb); have n1_ := Aside0.mk (below_step (by repeat (first | (with_reducible first | exact HB.out | apply below_alloc | apply pw_below_drewN | apply below_drew1 | refine below_set ?_ GE159.out) | exact HB.out)) hb); clear BK159; clear HB; have BK159 := n0_; have HB := n1_; clear n0_ n1_; (try clear hb); (try clear hb2); (try clear hk); (try clear hi)) | (go_at_call 10; (with_reducible refine (lockkeeperlaw24_awake.calls k  t162 _ ?side1 A88.out).mono ?_); (case side1 => exact ⟨by repeat (first | (with_reducible exact hM_.out) | (with_reducible exact LaidW.below hM_.out HB.out) | (with_reducible refine LaidW.alloc ?_ _) | (with_reducible refine LaidW.drewN ?_ _) | (with_reducible refine LaidW.drew ?_) | exact LaidW.below hM_.out (by repeat (first | (with_reducible first | exact HB.out | apply below_alloc | apply pw_below_drewN | apply below_drew1 | refine below_set ?_ GE159.out) | exact HB.out)))⟩); rintro e w94 ⟨rfl, hb⟩; have n0_ := Aside0.mk (blk_below (g := gb159) (o := .cells #[.int .i64 a0_0, .int .u64 a0_1, .int .i64 a0_2, .int .i64 a0_3, .int .i64 a0_4, .int .i64 a0_5, .int .i64 a0_6] 24 (0, 0)) (by (with_reducible repeat (first | refine blk_drewN ?_ _ | refine blk_drew ?_ | refine blk_alloc ?_ _)); exact BK159.out) hb); have n1_ := Aside0.mk (below_step (by repeat (first | (with_reducible first | exact HB.out | apply below_alloc | apply pw_below_drewN | apply below_drew1 | refine below_set ?_ GE159.out) | exact HB.out)) hb); clear BK159; clear HB; have BK159 := n0_; have HB := n1_; clear n0_ n1_; (try clear hb); (try clear hb2); (try clear hk); (try clear hi)))
   go_ret
   exact ⟨by first | rfl | (simp [errW_none, errW_some] <;> rfl) | (simp [*, errW_none, errW_some] <;> rfl), by repeat (first | (with_reducible first | exact HB.out | apply below_alloc | apply pw_below_drewN | apply below_drew1 | refine below_set ?_ GE159.out) | exact HB.out)⟩
  ·rw [if_neg c87] at H
   have c87b0 : (t160.toList == ([] : List UInt8)) = false := beq_eq_false_iff_ne.mpr c87
   have c87b1 : (t160.toList != ([] : List UInt8)) = true := bne_iff_ne.mpr c87
   exact absurd ((Option.some.inj H).trans hr_) (by decide)
end Go.Proofs.YtpkmhepoeefgkaaDoor.Pr
