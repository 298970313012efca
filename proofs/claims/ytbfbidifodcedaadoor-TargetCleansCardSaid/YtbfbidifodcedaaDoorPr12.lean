-- Made by a program of this session (wip/xp/xp.py), over the print's words.
import Derived.Test.YtbfbidifodcedaaDoorPr0
import Derived.Test.YtbfbidifodcedaaDoorPr3
import Derived.Test.YtbfbidifodcedaaDoorPr5
import Derived.Test.YtbfbidifodcedaaDoorPr11
import Derived.Test.YtbfbidifodcedaaDoorG5
namespace Go.Proofs.YtbfbidifodcedaaDoor.Pr
open Go.RowKit Go.Proofs.YtbfbidifodcedaaDoorW.PrintWords Go.Proofs.YtbfbidifodcedaaDoorW.PrintLast Go.Proofs.YtbfbidifodcedaaDoorW.PrintMore
attribute [local go_sem] max2_int min2_int max_two min_two max_three min_three max_four min_four   -- for this text's walks alone
set_option linter.unusedVariables false
set_option linter.unusedSimpArgs false

/-! ### lockkeeperlaw4_TargetCleans: function 12 -/
mutual
def lockkeeperlaw4_TargetCleans.j0 : Nat → ByteArray → Bool → Option (Bool)
 | 0, _, _ => none
 | k + 1, x3, x34 => if x34 = true then (some false) else (lockkeeperlaw4_TargetCleans.l0 k x3 1 1)
def lockkeeperlaw4_TargetCleans.l0 : Nat → ByteArray → Int → Int → Option (Bool)
 | 0, _, _, _ => none
 | k + 1, x3, x4, x5 => if x5 ≤ (x3.size : Int) then (if x5 < (x3.size : Int) then (if 0 ≤ x5 then (lockkeeperlaw4_TargetCleans.j2 k x3 x4 x5 ((bt x3 x5) != 47)) else (none)) else (lockkeeperlaw4_TargetCleans.j2 k x3 x4 x5 false)) else ((lockkeeperlaw4_awake.f k).bind fun t215 => (some t215))
def lockkeeperlaw4_TargetCleans.j2 : Nat → ByteArray → Int → Int → Bool → Option (Bool)
 | 0, _, _, _, _ => none
 | k + 1, x3, x4, x5, x50 => if x50 = true then (lockkeeperlaw4_TargetCleans.l0 k x3 x4 (wrap64 (x5 + 1))) else (if 0 ≤ x4 then (if x4 ≤ x5 then (if x5 ≤ (x3.size : Int) then (if (x3.extract (x4 : Int).toNat (x5 : Int).toNat).toList = ([46] : List UInt8) then (some false) else (if (x3.extract (x4 : Int).toNat (x5 : Int).toNat).toList = ([46, 46] : List UInt8) then (some false) else (if (x3.extract (x4 : Int).toNat (x5 : Int).toNat).toList = ([37, 50, 101] : List UInt8) then (some false) else (if (x3.extract (x4 : Int).toNat (x5 : Int).toNat).toList = ([37, 50, 69, 37, 50, 101] : List UInt8) then (some false) else (if (x3.extract (x4 : Int).toNat (x5 : Int).toNat).toList = ([46, 37, 50, 69] : List UInt8) then (some false) else (lockkeeperlaw4_TargetCleans.l0 k x3 (wrap64 (x5 + 1)) (wrap64 (x5 + 1)))))))) else (none)) else (none)) else (none))
end
def lockkeeperlaw4_TargetCleans.f (k : Nat) (a0 : ByteArray) : Option (Bool) := (lockkeeperlaw0_Long.f k 700 (([a0] : List ByteArray))).bind fun t211 => (if t211 = true then ((lockkeeperlaw4_awake.f k).bind fun t212 => (some t212)) else ((target_Clean.f k a0).bind fun t213 => (if (t213.size : Int) < 1 then (lockkeeperlaw4_TargetCleans.j0 k t213 true) else (if 0 < (t213.size : Int) then (if (bt t213 0) = 47 then ((target_Clean.f k t213).bind fun t214 => (if t214.toList = t213.toList then (lockkeeperlaw4_TargetCleans.j0 k t213 (decide ((t213.size : Int) > (wrap64 ((a0.size : Int) + 1))))) else (lockkeeperlaw4_TargetCleans.j0 k t213 true))) else (lockkeeperlaw4_TargetCleans.j0 k t213 true)) else (none)))))
theorem lockkeeperlaw4_TargetCleans.mono_l : ∀ k, (∀ y0 y1, LeO (lockkeeperlaw4_TargetCleans.j0 k y0 y1) (lockkeeperlaw4_TargetCleans.j0 (k + 1) y0 y1)) ∧ (∀ y0 y1 y2, LeO (lockkeeperlaw4_TargetCleans.l0 k y0 y1 y2) (lockkeeperlaw4_TargetCleans.l0 (k + 1) y0 y1 y2)) ∧ (∀ y0 y1 y2 y3, LeO (lockkeeperlaw4_TargetCleans.j2 k y0 y1 y2 y3) (lockkeeperlaw4_TargetCleans.j2 (k + 1) y0 y1 y2 y3))
 | 0 => ⟨fun _ _ r h => by simp [lockkeeperlaw4_TargetCleans.j0] at h, fun _ _ _ r h => by simp [lockkeeperlaw4_TargetCleans.l0] at h, fun _ _ _ _ r h => by simp [lockkeeperlaw4_TargetCleans.j2] at h⟩
 | k + 1 => by
  obtain ⟨ih0, ih1, ih2⟩ := lockkeeperlaw4_TargetCleans.mono_l k
  refine ⟨?_, ?_, ?_⟩
  ·intro y0 y1
   unfold lockkeeperlaw4_TargetCleans.j0
   repeat' first
   | (with_reducible exact ih0 _ _)
   | (with_reducible exact ih1 _ _ _)
   | (with_reducible exact ih2 _ _ _ _)
   | (with_reducible exact lockkeeperlaw0_Long.mono _ _ _)
   | (with_reducible exact lockkeeperlaw4_awake.mono _)
   | (with_reducible exact target_Clean.mono _ _)
   | (with_reducible exact LeO.refl _)
   | (with_reducible exact LeO.none _)
   | (with_reducible refine LeO.ite ?_ ?_)
   | (with_reducible refine LeO.bind ?_ (fun _ => ?_))
   | exact ih0 _ _
   | exact ih1 _ _ _
   | exact ih2 _ _ _ _
   | exact lockkeeperlaw0_Long.mono _ _ _
   | exact lockkeeperlaw4_awake.mono _
   | exact target_Clean.mono _ _
   | exact LeO.none _
   | refine LeO.ite ?_ ?_
   | refine LeO.bind ?_ (fun _ => ?_)
  ·intro y0 y1 y2
   unfold lockkeeperlaw4_TargetCleans.l0
   repeat' first
   | (with_reducible exact ih0 _ _)
   | (with_reducible exact ih1 _ _ _)
   | (with_reducible exact ih2 _ _ _ _)
   | (with_reducible exact lockkeeperlaw0_Long.mono _ _ _)
   | (with_reducible exact lockkeeperlaw4_awake.mono _)
   | (with_reducible exact target_Clean.mono _ _)
   | (with_reducible exact LeO.refl _)
   | (with_reducible exact LeO.none _)
   | (with_reducible refine LeO.ite ?_ ?_)
   | (with_reducible refine LeO.bind ?_ (fun _ => ?_))
   | exact ih0 _ _
   | exact ih1 _ _ _
   | exact ih2 _ _ _ _
   | exact lockkeeperlaw0_Long.mono _ _ _
   | exact lockkeeperlaw4_awake.mono _
   | exact target_Clean.mono _ _
   | exact LeO.none _
   | refine LeO.ite ?_ ?_
   | refine LeO.bind ?_ (fun _ => ?_)
  ·intro y0 y1 y2 y3
   unfold lockkeeperlaw4_TargetCleans.j2
   repeat' first
   | (with_reducible exact ih0 _ _)
   | (with_reducible exact ih1 _ _ _)
   | (with_reducible exact ih2 _ _ _ _)
   | (with_reducible exact lockkeeperlaw0_Long.mono _ _ _)
   | (with_reducible exact lockkeeperlaw4_awake.mono _)
   | (with_reducible exact target_Clean.mono _ _)
   | (with_reducible exact LeO.refl _)
   | (with_reducible exact LeO.none _)
   | (with_reducible refine LeO.ite ?_ ?_)
   | (with_reducible refine LeO.bind ?_ (fun _ => ?_))
   | exact ih0 _ _
   | exact ih1 _ _ _
   | exact ih2 _ _ _ _
   | exact lockkeeperlaw0_Long.mono _ _ _
   | exact lockkeeperlaw4_awake.mono _
   | exact target_Clean.mono _ _
   | exact LeO.none _
   | refine LeO.ite ?_ ?_
   | refine LeO.bind ?_ (fun _ => ?_)
theorem lockkeeperlaw4_TargetCleans.mono : ∀ a0 k, LeO (lockkeeperlaw4_TargetCleans.f k a0) (lockkeeperlaw4_TargetCleans.f (k + 1) a0) := by
 intro a0 k
 obtain ⟨ih0, ih1, ih2⟩ := lockkeeperlaw4_TargetCleans.mono_l k
 unfold lockkeeperlaw4_TargetCleans.f
 repeat' first
   | (with_reducible exact ih0 _ _)
   | (with_reducible exact ih1 _ _ _)
   | (with_reducible exact ih2 _ _ _ _)
   | (with_reducible exact lockkeeperlaw0_Long.mono _ _ _)
   | (with_reducible exact lockkeeperlaw4_awake.mono _)
   | (with_reducible exact target_Clean.mono _ _)
   | (with_reducible exact LeO.refl _)
   | (with_reducible exact LeO.none _)
   | (with_reducible refine LeO.ite ?_ ?_)
   | (with_reducible refine LeO.bind ?_ (fun _ => ?_))
   | exact ih0 _ _
   | exact ih1 _ _ _
   | exact ih2 _ _ _ _
   | exact lockkeeperlaw0_Long.mono _ _ _
   | exact lockkeeperlaw4_awake.mono _
   | exact target_Clean.mono _ _
   | exact LeO.none _
   | refine LeO.ite ?_ ?_
   | refine LeO.bind ?_ (fun _ => ?_)
set_option maxHeartbeats 8000000 in
set_option maxRecDepth 100000 in
theorem lockkeeperlaw4_TargetCleans.calls (k : Nat) (a0 : ByteArray) (r : Bool) (w : World) (hM_ : Aside0 (LaidW w)) (hr_ : r = true) (h : lockkeeperlaw4_TargetCleans.f k a0 = some r) :
  Calls Tryd.prog 12 #[.string a0] w fun e w' => e = .returned (.bool r) ∧ Below w.heap.size w w' := by
 have HB := Aside0.mk (Below.refl w.heap.size w)
 have H : ((lockkeeperlaw0_Long.f k 700 (([a0] : List ByteArray))).bind fun t211 => (if t211 = true then ((lockkeeperlaw4_awake.f k).bind fun t212 => (some t212)) else ((target_Clean.f k a0).bind fun t213 => (if (t213.size : Int) < 1 then (lockkeeperlaw4_TargetCleans.j0 k t213 true) else (if 0 < (t213.size : Int) then (if (bt t213 0) = 47 then ((target_Clean.f k t213).bind fun t214 => (if t214.toList = t213.toList then (lockkeeperlaw4_TargetCleans.j0 k t213 (decide ((t213.size : Int) > (wrap64 ((a0.size : Int) + 1))))) else (lockkeeperlaw4_TargetCleans.j0 k t213 true))) else (lockkeeperlaw4_TargetCleans.j0 k t213 true)) else (none)))))) = some r := h
 clear h
 obtain ⟨y208, hy208⟩ : ∃ y_ : List ByteArray, y_ = (([a0] : List ByteArray)) := ⟨_, rfl⟩
 replace H : ((lockkeeperlaw0_Long.f k 700 y208).bind fun t211 => (if t211 = true then ((lockkeeperlaw4_awake.f k).bind fun t212 => (some t212)) else ((target_Clean.f k a0).bind fun t213 => (if (t213.size : Int) < 1 then (lockkeeperlaw4_TargetCleans.j0 k t213 true) else (if 0 < (t213.size : Int) then (if (bt t213 0) = 47 then ((target_Clean.f k t213).bind fun t214 => (if t214.toList = t213.toList then (lockkeeperlaw4_TargetCleans.j0 k t213 (decide ((t213.size : Int) > (wrap64 ((a0.size : Int) + 1))))) else (lockkeeperlaw4_TargetCleans.j0 k t213 true))) else (lockkeeperlaw4_TargetCleans.j0 k t213 true)) else (none)))))) = some r := by first | (rw [hy208]; with_reducible exact H) | (have H2_ := (Option.bind_some _ _).symm.trans H; rw [hy208]; with_reducible exact H2_) | (have H2_ := (Option.bind_some _ _).symm.trans H; with_reducible exact H2_) | with_reducible exact H | (rw [hy208]; exact H) | exact H
 have Ny208 := Aside0.mk hy208
 clear hy208
 replace H := Option.bind_eq_some_iff.mp H
 obtain ⟨t211, A20, H⟩ := H
 replace H : (if t211 = true then ((lockkeeperlaw4_awake.f k).bind fun t212 => (some t212)) else ((target_Clean.f k a0).bind fun t213 => (if (t213.size : Int) < 1 then (lockkeeperlaw4_TargetCleans.j0 k t213 true) else (if 0 < (t213.size : Int) then (if (bt t213 0) = 47 then ((target_Clean.f k t213).bind fun t214 => (if t214.toList = t213.toList then (lockkeeperlaw4_TargetCleans.j0 k t213 (decide ((t213.size : Int) > (wrap64 ((a0.size : Int) + 1))))) else (lockkeeperlaw4_TargetCleans.j0 k t213 true))) else (lockkeeperlaw4_TargetCleans.j0 k t213 true)) else (none))))) = some r := H
 have A2 := Aside0.mk A20
 clear A20
 by_cases c3 : t211 = true
 ·subst c3
  have H1 : ((lockkeeperlaw4_awake.f k).bind fun t212 => (some t212)) = some r := by rw [if_pos rfl] at H; exact H
  clear H
  have H := H1
  clear H1
  replace H := Option.bind_eq_some_iff.mp H
  obtain ⟨t212, A40, H⟩ := H
  replace H : (some t212) = some r := H
  have A4 := Aside0.mk A40
  clear A40
  clear hr_
  obtain rfl := Option.some.inj H
  go_enter Tryd.func12, Tryd.ntmps12
  go_wp2_with (first | ((with_reducible refine gate_dst (N := 8) rfl ?_); (try (refine gate_guard (by rfl) ?_; dsimp only)); refine Kd.R_lit Kd.string _ 9 ?hg (N := 8) ?hd (xs := ([a0] : List ByteArray)) (inner := [.string a0]) (ok := fun _ => True) (okp := fun _ => True) ?hr ?hp (fun _ hk => hk) trivial (Below.refl _ _) (Nat.le_refl _) (by simp) ?_; (case hd => rfl); (case hg => rfl); (case hr => first | (go_simp; done) | (go_simp; rfl)); (case hp => exact (Reps.one (show Kd.M Kd.string _ _ _ a0 [.string a0] from rfl) (Reps.none _ _))); intro v209 w5 ho6 hb hg_ hnew_; clear hg_ hnew_; (first | rw [← Ny208.out] at ho6 | (simp only [Int.reduceToNat] at ho6; rw [← Ny208.out] at ho6)); have n0_ := Aside0.mk (Kd.R_lower ho6 (below_size (by repeat (first | (with_reducible first | exact HB.out | apply below_alloc | apply pw_below_drewN | apply below_drew1) | exact HB.out)))); have n1_ := Aside0.mk (below_step (by repeat (first | (with_reducible first | exact HB.out | apply below_alloc | apply pw_below_drewN | apply below_drew1) | exact HB.out)) hb); clear HB; have HO210 := n0_; have HB := n1_; clear n0_ n1_; clear hb ho6; obtain ⟨Ao7, co7, eo7⟩ := Kd.R_slice HO210.out; subst eo7) | ((with_reducible refine gate_callee (f := 17) rfl ?_); refine goesL_ (some 9) rfl rfl Tryd.func17 (by kernel_rfl) rfl #[.int .i64 700, .slice Ao7 y208.length co7] rfl (by (try simp only [List.map_toArray, List.map_cons, List.map_nil]); first | done | rfl | (simp only [List.length_drop, List.length_take]; rfl)) ?_; (with_reducible refine (lockkeeperlaw0_Long.calls k 700 _ _ y208 true _ ?side1 ?side2 A2.out).mono ?_); (case side1 => repeat (first | exact (Kd.R_reads' HO210.out).2.2 | (with_reducible refine Kd.C_alloc ?_ _) | (with_reducible refine Kd.C_drewN ?_ _) | (with_reducible refine Kd.C_drew ?_))); (case side2 => exact (Kd.R_reads' HO210.out).2.1); rintro e w' ⟨rfl, ⟨nd, rfl⟩⟩; refine ⟨_, rfl, ?_⟩) | ((with_reducible refine gate_callee (f := 33) rfl ?_); refine goesL_ (some 10) rfl rfl Tryd.func33 (by kernel_rfl) rfl #[] rfl (by (try simp only [List.map_toArray, List.map_cons, List.map_nil]); first | done | rfl | (simp only [List.length_drop, List.length_take]; rfl)) ?_; (with_reducible refine (lockkeeperlaw4_awake.calls k  t212 _ ?side1 A4.out).mono ?_); (case side1 => exact ⟨by repeat (first | (with_reducible exact hM_.out) | (with_reducible exact LaidW.below hM_.out HB.out) | (with_reducible refine LaidW.alloc ?_ _) | (with_reducible refine LaidW.drewN ?_ _) | (with_reducible refine LaidW.drew ?_) | exact LaidW.below hM_.out (by repeat (first | (with_reducible first | exact HB.out | apply below_alloc | apply pw_below_drewN | apply below_drew1) | exact HB.out)))⟩); rintro e w8 ⟨rfl, hb⟩; refine ⟨_, rfl, ?_⟩; have n0_ := Aside0.mk (Kd.R_below (by (with_reducible repeat (first | apply Kd.R_alloc | apply Kd.R_drewN | apply Kd.R_drew)); exact HO210.out) hb); have n1_ := Aside0.mk (below_step (by repeat (first | (with_reducible first | exact HB.out | apply below_alloc | apply pw_below_drewN | apply below_drew1) | exact HB.out)) hb); clear HO210; clear HB; have HO210 := n0_; have HB := n1_; clear n0_ n1_; (try clear hb); (try clear hb2); (try clear hk); (try clear hi)))
  go_ret
  exact ⟨by first | rfl | (simp [errW_none, errW_some] <;> rfl) | (simp [*, errW_none, errW_some] <;> rfl), by repeat (first | (with_reducible first | exact HB.out | apply below_alloc | apply pw_below_drewN | apply below_drew1) | exact HB.out)⟩
 ·replace c3 := Bool.eq_false_iff.mpr c3
  subst c3
  have H1 : ((target_Clean.f k a0).bind fun t213 => (if (t213.size : Int) < 1 then (lockkeeperlaw4_TargetCleans.j0 k t213 true) else (if 0 < (t213.size : Int) then (if (bt t213 0) = 47 then ((target_Clean.f k t213).bind fun t214 => (if t214.toList = t213.toList then (lockkeeperlaw4_TargetCleans.j0 k t213 (decide ((t213.size : Int) > (wrap64 ((a0.size : Int) + 1))))) else (lockkeeperlaw4_TargetCleans.j0 k t213 true))) else (lockkeeperlaw4_TargetCleans.j0 k t213 true)) else (none)))) = some r := by rw [if_neg (show ¬ (false = true) by decide)] at H; exact H
  clear H
  have H := H1
  clear H1
  replace H := Option.bind_eq_some_iff.mp H
  obtain ⟨t213, A90, H⟩ := H
  replace H : (if (t213.size : Int) < 1 then (lockkeeperlaw4_TargetCleans.j0 k t213 true) else (if 0 < (t213.size : Int) then (if (bt t213 0) = 47 then ((target_Clean.f k t213).bind fun t214 => (if t214.toList = t213.toList then (lockkeeperlaw4_TargetCleans.j0 k t213 (decide ((t213.size : Int) > (wrap64 ((a0.size : Int) + 1))))) else (lockkeeperlaw4_TargetCleans.j0 k t213 true))) else (lockkeeperlaw4_TargetCleans.j0 k t213 true)) else (none))) = some r := H
  have A9 := Aside0.mk A90
  clear A90
  have HC10 := Aside0.mk H
  clear H
  go_enter Tryd.func12, Tryd.ntmps12
  go_upto_region 4 with (first | ((with_reducible refine gate_dst (N := 8) rfl ?_); (try (refine gate_guard (by rfl) ?_; dsimp only)); refine Kd.R_lit Kd.string _ 9 ?hg (N := 8) ?hd (xs := ([a0] : List ByteArray)) (inner := [.string a0]) (ok := fun _ => True) (okp := fun _ => True) ?hr ?hp (fun _ hk => hk) trivial (Below.refl _ _) (Nat.le_refl _) (by simp) ?_; (case hd => rfl); (case hg => rfl); (case hr => first | (go_simp; done) | (go_simp; rfl)); (case hp => exact (Reps.one (show Kd.M Kd.string _ _ _ a0 [.string a0] from rfl) (Reps.none _ _))); intro v209 w11 ho12 hb hg_ hnew_; clear hg_ hnew_; (first | rw [← Ny208.out] at ho12 | (simp only [Int.reduceToNat] at ho12; rw [← Ny208.out] at ho12)); have n0_ := Aside0.mk (Kd.R_lower ho12 (below_size (by repeat (first | (with_reducible first | exact HB.out | apply below_alloc | apply pw_below_drewN | apply below_drew1) | exact HB.out)))); have n1_ := Aside0.mk (below_step (by repeat (first | (with_reducible first | exact HB.out | apply below_alloc | apply pw_below_drewN | apply below_drew1) | exact HB.out)) hb); clear HB; have HO210 := n0_; have HB := n1_; clear n0_ n1_; clear hb ho12; obtain ⟨Ao13, co13, eo13⟩ := Kd.R_slice HO210.out; subst eo13) | ((with_reducible refine gate_callee (f := 17) rfl ?_); refine goesL_ (some 9) rfl rfl Tryd.func17 (by kernel_rfl) rfl #[.int .i64 700, .slice Ao13 y208.length co13] rfl (by (try simp only [List.map_toArray, List.map_cons, List.map_nil]); first | done | rfl | (simp only [List.length_drop, List.length_take]; rfl)) ?_; (with_reducible refine (lockkeeperlaw0_Long.calls k 700 _ _ y208 false _ ?side1 ?side2 A2.out).mono ?_); (case side1 => repeat (first | exact (Kd.R_reads' HO210.out).2.2 | (with_reducible refine Kd.C_alloc ?_ _) | (with_reducible refine Kd.C_drewN ?_ _) | (with_reducible refine Kd.C_drew ?_))); (case side2 => exact (Kd.R_reads' HO210.out).2.1); rintro e w' ⟨rfl, ⟨nd, rfl⟩⟩; refine ⟨_, rfl, ?_⟩) | ((with_reducible refine gate_callee (f := 36) rfl ?_); refine goesL_ (some 12) rfl rfl Tryd.func36 (by kernel_rfl) rfl #[.string a0] rfl (by (try simp only [List.map_toArray, List.map_cons, List.map_nil]); first | done | rfl | (simp only [List.length_drop, List.length_take]; rfl)) ?_; (with_reducible refine (target_Clean.calls k a0 t213 _ A9.out).mono ?_); rintro e w14 ⟨rfl, hb⟩; refine ⟨_, rfl, ?_⟩; have n0_ := Aside0.mk (Kd.R_below (by (with_reducible repeat (first | apply Kd.R_alloc | apply Kd.R_drewN | apply Kd.R_drew)); exact HO210.out) hb); have n1_ := Aside0.mk (below_step (by repeat (first | (with_reducible first | exact HB.out | apply below_alloc | apply pw_below_drewN | apply below_drew1) | exact HB.out)) hb); clear HO210; clear HB; have HO210 := n0_; have HB := n1_; clear n0_ n1_; (try clear hb); (try clear hb2); (try clear hk); (try clear hi)))
  (try simp only [Act.put, List.setIfInBounds_toArray, List.set_cons_zero, List.set_cons_succ])
  go_cut [34] (fun v34 wc => ∃ (kq : Nat) (x34_9 : Bool), v34 = .bool x34_9 ∧ Aside0 (lockkeeperlaw4_TargetCleans.j0 kq t213 x34_9 = some r) ∧ Aside0 (kq ≤ k) ∧ Aside0 (Below w.heap.size w wc))
  case first =>
   have H := HC10.out
   clear HC10
   by_cases c15 : (t213.size : Int) < 1
   ·rw [if_pos c15] at H
    have c15b0 : decide ((t213.size : Int) < 1) = true := decide_eq_true c15
    have c15b1 : decide (t213.size < 1) = true := decide_eq_true (by omega)
    clear c15
    (first | rw [c15b0] | (simp only [i64_w, i32_w]; rw [c15b0]) | skip)
    have H' := Aside0.mk H
    clear H
    go_wp2
    go_meet
    case rel => exact ⟨_, (true), (by first | rfl | (simp; done) | (simp [*]; done)), H', ⟨by first | omega | exact Nat.le_refl _⟩, ⟨by repeat (first | (with_reducible first | exact HB.out | apply below_alloc | apply pw_below_drewN | apply below_drew1) | exact HB.out)⟩⟩
   ·rw [if_neg c15] at H
    have c15b0 : decide ((t213.size : Int) < 1) = false := decide_eq_false c15
    have c15b1 : decide (t213.size < 1) = false := decide_eq_false (by omega)
    clear c15
    (first | rw [c15b0] | (simp only [i64_w, i32_w]; rw [c15b0]) | skip)
    by_cases c16 : 0 < (t213.size : Int)
    ·rw [if_pos c16] at H
     have c16b0 : decide (0 < (t213.size : Int)) = true := decide_eq_true c16
     have c16b1 : decide (0 < t213.size) = true := decide_eq_true (by omega)
     clear c16
     by_cases c18 : (bt t213 0) = 47
     ·rw [if_pos c18] at H
      have c18b0 : ((bt t213 0) == 47) = true := beq_iff_eq.mpr c18
      have c18b1 : ((bt t213 0) != 47) = false := bne_eq_false_iff_eq.mpr c18
      clear c18
      replace H := Option.bind_eq_some_iff.mp H
      obtain ⟨t214, A190, H⟩ := H
      replace H : (if t214.toList = t213.toList then (lockkeeperlaw4_TargetCleans.j0 k t213 (decide ((t213.size : Int) > (wrap64 ((a0.size : Int) + 1))))) else (lockkeeperlaw4_TargetCleans.j0 k t213 true)) = some r := H
      have A19 := Aside0.mk A190
      clear A190
      by_cases c20 : t214.toList = t213.toList
      ·rw [if_pos c20] at H
       have c20b0 : (t214.toList == t213.toList) = true := beq_iff_eq.mpr c20
       have c20b1 : (t214.toList != t213.toList) = false := bne_eq_false_iff_eq.mpr c20
       clear c20
       have H' := Aside0.mk H
       clear H
       have p17 : 0 ≤ (0 : Int) := (by omega)
       have q17 : 0 < t213.size := (by have : (0 : Int) < (t213.size : Int) := of_decide_eq_true (by first | (with_reducible assumption) | assumption); omega)
       have hx17 : ∀ h : 0 < t213.size, ((t213[0]'h).toNat : Int) = bt t213 0 := bt_at t213 0
       clear p17
       have qi17 : (0 < (t213.size : Int)) = True := eq_true (of_decide_eq_true (by first | (with_reducible assumption) | assumption))
       replace q17 := eq_true q17
       go_wp2_with (first | (go_at_call 36; (with_reducible refine (target_Clean.calls k t213 t214 _ A19.out).mono ?_); rintro e w21 ⟨rfl, hb⟩; have n0_ := Aside0.mk (Kd.R_below (by (with_reducible repeat (first | apply Kd.R_alloc | apply Kd.R_drewN | apply Kd.R_drew)); exact HO210.out) hb); have n1_ := Aside0.mk (below_step (by repeat (first | (with_reducible first | exact HB.out | apply below_alloc | apply pw_below_drewN | apply below_drew1) | exact HB.out)) hb); clear HO210; clear HB; have HO210 := n0_; have HB := n1_; clear n0_ n1_; (try clear hb); (try clear hb2); (try clear hk); (try clear hi)))
       go_meet
       case rel => exact ⟨_, (decide ((t213.size : Int) > (wrap64 ((a0.size : Int) + 1)))), (by first | rfl | (simp; done) | (simp [*]; done)), H', ⟨by first | omega | exact Nat.le_refl _⟩, ⟨by repeat (first | (with_reducible first | exact HB.out | apply below_alloc | apply pw_below_drewN | apply below_drew1) | exact HB.out)⟩⟩
      ·rw [if_neg c20] at H
       have c20b0 : (t214.toList == t213.toList) = false := beq_eq_false_iff_ne.mpr c20
       have c20b1 : (t214.toList != t213.toList) = true := bne_iff_ne.mpr c20
       have H' := Aside0.mk H
       clear H
       have p17 : 0 ≤ (0 : Int) := (by omega)
       have q17 : 0 < t213.size := (by have : (0 : Int) < (t213.size : Int) := of_decide_eq_true (by first | (with_reducible assumption) | assumption); omega)
       have hx17 : ∀ h : 0 < t213.size, ((t213[0]'h).toNat : Int) = bt t213 0 := bt_at t213 0
       clear p17
       have qi17 : (0 < (t213.size : Int)) = True := eq_true (of_decide_eq_true (by first | (with_reducible assumption) | assumption))
       replace q17 := eq_true q17
       go_wp2_with (first | (go_at_call 36; (with_reducible refine (target_Clean.calls k t213 t214 _ A19.out).mono ?_); rintro e w22 ⟨rfl, hb⟩; have n0_ := Aside0.mk (Kd.R_below (by (with_reducible repeat (first | apply Kd.R_alloc | apply Kd.R_drewN | apply Kd.R_drew)); exact HO210.out) hb); have n1_ := Aside0.mk (below_step (by repeat (first | (with_reducible first | exact HB.out | apply below_alloc | apply pw_below_drewN | apply below_drew1) | exact HB.out)) hb); clear HO210; clear HB; have HO210 := n0_; have HB := n1_; clear n0_ n1_; (try clear hb); (try clear hb2); (try clear hk); (try clear hi)))
       go_meet
       case rel => exact ⟨_, (true), (by first | rfl | (simp; done) | (simp [*]; done)), H', ⟨by first | omega | exact Nat.le_refl _⟩, ⟨by repeat (first | (with_reducible first | exact HB.out | apply below_alloc | apply pw_below_drewN | apply below_drew1) | exact HB.out)⟩⟩
     ·rw [if_neg c18] at H
      have c18b0 : ((bt t213 0) == 47) = false := beq_eq_false_iff_ne.mpr c18
      have c18b1 : ((bt t213 0) != 47) = true := bne_iff_ne.mpr c18
      have H' := Aside0.mk H
      clear H
      have p17 : 0 ≤ (0 : Int) := (by omega)
      have q17 : 0 < t213.size := (by have : (0 : Int) < (t213.size : Int) := of_decide_eq_true (by first | (with_reducible assumption) | assumption); omega)
      have hx17 : ∀ h : 0 < t213.size, ((t213[0]'h).toNat : Int) = bt t213 0 := bt_at t213 0
      clear p17
      have qi17 : (0 < (t213.size : Int)) = True := eq_true (of_decide_eq_true (by first | (with_reducible assumption) | assumption))
      replace q17 := eq_true q17
      go_wp2
      go_meet
      case rel => exact ⟨_, (true), (by first | rfl | (simp; done) | (simp [*]; done)), H', ⟨by first | omega | exact Nat.le_refl _⟩, ⟨by repeat (first | (with_reducible first | exact HB.out | apply below_alloc | apply pw_below_drewN | apply below_drew1) | exact HB.out)⟩⟩
    ·rw [if_neg c16] at H
     exact absurd H (by simp)
  case rest =>
   clear HC10
   try clear c1
   try clear p1
   try clear q1
   try clear hx1
   try clear qi1
   try clear c2
   try clear p2
   try clear c3
   try clear p6
   try clear c12
   try clear c15
   try clear c15b0
   try clear c15b1
   try clear c16
   try clear c16b0
   try clear c16b1
   try clear c17
   try clear p17
   try clear q17
   try clear hx17
   try clear qi17
   try clear c18
   try clear c18b0
   try clear c18b1
   try clear c20
   try clear c20b0
   try clear c20b1
   try clear p17
   try clear q17
   obtain ⟨kq, x34_9, rfl, HA, HJ9, HB⟩ := hcut
   cases kq with
   | zero => exact absurd HA.out (by simp [lockkeeperlaw4_TargetCleans.j0])
   | succ kj9 =>
    have H := HA.out
    clear HA
    simp only [lockkeeperlaw4_TargetCleans.j0] at H
    by_cases c23 : x34_9 = true
    ·subst c23
     have H1 : (some false) = some r := by rw [if_pos rfl] at H; exact H
     clear H
     have H := H1
     clear H1
     exact absurd ((Option.some.inj H).trans hr_) (by decide)
    ·replace c23 := Bool.eq_false_iff.mpr c23
     subst c23
     have H1 : (lockkeeperlaw4_TargetCleans.l0 kj9 t213 1 1) = some r := by rw [if_neg (show ¬ (false = true) by decide)] at H; exact H
     clear H
     have H := H1
     clear H1
     have H' := Aside0.mk H
     clear H
     go_wp2
     go_loopg [4, 5] kj9 (fun kq v4 v5 w' => ∃ (x4_2 : Int) (x5_2 : Int), v4 = .int .i64 x4_2 ∧ v5 = .int .i64 x5_2 ∧ Aside0 (lockkeeperlaw4_TargetCleans.l0 kq t213 x4_2 x5_2 = some r) ∧ Aside0 (kq ≤ kj9) ∧ Aside0 (Below w.heap.size w w'))
     case atStart => exact ⟨(1), (1), (by first | rfl | (simp; done) | (simp [*]; done)), (by first | rfl | (simp; done) | (simp [*]; done)), H', ⟨Nat.le_refl _⟩, ⟨by repeat (first | (with_reducible first | exact HB.out | apply below_alloc | apply pw_below_drewN | apply below_drew1) | exact HB.out)⟩⟩
     case round =>
      clear H'
      try clear c1
      try clear p1
      try clear q1
      try clear hx1
      try clear qi1
      try clear c2
      try clear p2
      try clear c3
      try clear p6
      try clear c12
      try clear c15
      try clear c15b0
      try clear c15b1
      try clear c16
      try clear c16b0
      try clear c16b1
      try clear c17
      try clear p17
      try clear q17
      try clear hx17
      try clear qi17
      try clear c18
      try clear c18b0
      try clear c18b1
      try clear c20
      try clear c20b0
      try clear c20b1
      try clear c23
      try clear p1
      try clear p17
      try clear p2
      try clear p6
      try clear q1
      try clear q17
      obtain ⟨x4_2, x5_2, rfl, rfl, HA, HK2, HB⟩ := hrel
      cases gk with
      | zero => exact absurd HA.out (by simp [lockkeeperlaw4_TargetCleans.l0])
      | succ k2 =>
       have H := HA.out
       clear HA
       simp only [lockkeeperlaw4_TargetCleans.l0] at H
       by_cases c24 : x5_2 ≤ (t213.size : Int)
       ·rw [if_pos c24] at H
        have c24b0 : decide (x5_2 ≤ (t213.size : Int)) = true := decide_eq_true c24
        clear c24
        have HC25 := Aside0.mk H
        clear H
        go_upto_region 10 with (fail)
        go_cut [50] (fun v50 wc => ∃ (kq : Nat) (x50_24 : Bool), v50 = .bool x50_24 ∧ Aside0 (lockkeeperlaw4_TargetCleans.j2 kq t213 x4_2 x5_2 x50_24 = some r) ∧ Aside0 (kq ≤ k2) ∧ Aside0 (Below w.heap.size w wc))
        case first =>
         have H := HC25.out
         clear HC25
         by_cases c26 : x5_2 < (t213.size : Int)
         ·rw [if_pos c26] at H
          have c26b0 : decide (x5_2 < (t213.size : Int)) = true := decide_eq_true c26
          clear c26
          (first | rw [c26b0] | (simp only [i64_w, i32_w]; rw [c26b0]) | skip)
          by_cases c27 : 0 ≤ x5_2
          ·rw [if_pos c27] at H
           have c27b0 : decide (0 ≤ x5_2) = true := decide_eq_true c27
           clear c27
           have H' := Aside0.mk H
           clear H
           have p28 : 0 ≤ (x5_2 : Int) := of_decide_eq_true (by first | (with_reducible assumption) | assumption)
           have q28 : x5_2 < (t213.size : Int) := of_decide_eq_true (by first | (with_reducible assumption) | assumption)
           have hx28 := bt_at t213 x5_2
           replace p28 := eq_true p28
           replace q28 := eq_true q28
           go_wp2
           go_meet
           case rel => exact ⟨_, (((bt t213 x5_2) != 47)), (by first | rfl | (simp; done) | (simp [*]; done)), H', ⟨by have := HJ9.out; have := HK2.out; first | omega | exact Nat.le_refl _⟩, ⟨by repeat (first | (with_reducible first | exact HB.out | apply below_alloc | apply pw_below_drewN | apply below_drew1) | exact HB.out)⟩⟩
          ·rw [if_neg c27] at H
           exact absurd H (by simp)
         ·rw [if_neg c26] at H
          have c26b0 : decide (x5_2 < (t213.size : Int)) = false := decide_eq_false c26
          clear c26
          (first | rw [c26b0] | (simp only [i64_w, i32_w]; rw [c26b0]) | skip)
          have H' := Aside0.mk H
          clear H
          go_wp2
          go_meet
          case rel => exact ⟨_, (false), (by first | rfl | (simp; done) | (simp [*]; done)), H', ⟨by have := HJ9.out; have := HK2.out; first | omega | exact Nat.le_refl _⟩, ⟨by repeat (first | (with_reducible first | exact HB.out | apply below_alloc | apply pw_below_drewN | apply below_drew1) | exact HB.out)⟩⟩
        case rest =>
         clear HC25
         try clear c1
         try clear p1
         try clear q1
         try clear hx1
         try clear qi1
         try clear c2
         try clear p2
         try clear q2
         try clear hx2
         try clear c3
         try clear p6
         try clear c12
         try clear c15
         try clear c15b0
         try clear c15b1
         try clear c16
         try clear c16b0
         try clear c16b1
         try clear c17
         try clear p17
         try clear q17
         try clear hx17
         try clear qi17
         try clear c18
         try clear c18b0
         try clear c18b1
         try clear c20
         try clear c20b0
         try clear c20b1
         try clear c23
         try clear c24
         try clear c24b0
         try clear c26
         try clear c26b0
         try clear c27
         try clear c27b0
         try clear p28
         try clear q28
         try clear hx28
         try clear p1
         try clear p17
         try clear p2
         try clear p28
         try clear p6
         try clear q1
         try clear q17
         try clear q28
         obtain ⟨kq, x50_24, rfl, HA, HJ24, HB⟩ := hcut
         cases kq with
         | zero => exact absurd HA.out (by simp [lockkeeperlaw4_TargetCleans.j2])
         | succ kj24 =>
          have H := HA.out
          clear HA
          simp only [lockkeeperlaw4_TargetCleans.j2] at H
          by_cases c29 : x50_24 = true
          ·subst c29
           have H1 : (lockkeeperlaw4_TargetCleans.l0 kj24 t213 x4_2 (wrap64 (x5_2 + 1))) = some r := by rw [if_pos rfl] at H; exact H
           clear H
           have H := H1
           clear H1
           have H' := Aside0.mk H
           clear H
           go_wp2
           go_roundg kj24
           case measure => have := HJ9.out; have := HK2.out; have := HJ24.out; omega
           case rel => exact ⟨(x4_2), (wrap64 (x5_2 + 1)), (by first | rfl | (simp; done) | (simp [*]; done)), (by first | rfl | (simp; done) | (simp [*]; done)), H', ⟨by have := HJ9.out; have := HK2.out; have := HJ24.out; omega⟩, ⟨by repeat (first | (with_reducible first | exact HB.out | apply below_alloc | apply pw_below_drewN | apply below_drew1) | exact HB.out)⟩⟩
          ·replace c29 := Bool.eq_false_iff.mpr c29
           subst c29
           have H1 : (if 0 ≤ x4_2 then (if x4_2 ≤ x5_2 then (if x5_2 ≤ (t213.size : Int) then (if (t213.extract (x4_2 : Int).toNat (x5_2 : Int).toNat).toList = ([46] : List UInt8) then (some false) else (if (t213.extract (x4_2 : Int).toNat (x5_2 : Int).toNat).toList = ([46, 46] : List UInt8) then (some false) else (if (t213.extract (x4_2 : Int).toNat (x5_2 : Int).toNat).toList = ([37, 50, 101] : List UInt8) then (some false) else (if (t213.extract (x4_2 : Int).toNat (x5_2 : Int).toNat).toList = ([37, 50, 69, 37, 50, 101] : List UInt8) then (some false) else (if (t213.extract (x4_2 : Int).toNat (x5_2 : Int).toNat).toList = ([46, 37, 50, 69] : List UInt8) then (some false) else (lockkeeperlaw4_TargetCleans.l0 kj24 t213 (wrap64 (x5_2 + 1)) (wrap64 (x5_2 + 1)))))))) else (none)) else (none)) else (none)) = some r := by rw [if_neg (show ¬ (false = true) by decide)] at H; exact H
           clear H
           have H := H1
           clear H1
           by_cases c30 : 0 ≤ x4_2
           ·rw [if_pos c30] at H
            have c30b0 := eq_true c30
            have c30b1 : decide (0 ≤ x4_2) = true := decide_eq_true c30
            clear c30
            by_cases c31 : x4_2 ≤ x5_2
            ·rw [if_pos c31] at H
             have c31b0 := eq_true c31
             have c31b1 : decide (x4_2 ≤ x5_2) = true := decide_eq_true c31
             clear c31
             by_cases c32 : x5_2 ≤ (t213.size : Int)
             ·rw [if_pos c32] at H
              have c32b0 := eq_true c32
              have c32b1 : decide (x5_2 ≤ (t213.size : Int)) = true := decide_eq_true c32
              clear c32
              by_cases c33 : (t213.extract (x4_2 : Int).toNat (x5_2 : Int).toNat).toList = ([46] : List UInt8)
              ·rw [if_pos c33] at H
               have c33b0 : ((t213.extract (x4_2 : Int).toNat (x5_2 : Int).toNat).toList == ([46] : List UInt8)) = true := beq_iff_eq.mpr c33
               have c33b1 : ((t213.extract (x4_2 : Int).toNat (x5_2 : Int).toNat).toList != ([46] : List UInt8)) = false := bne_eq_false_iff_eq.mpr c33
               clear c33
               exact absurd ((Option.some.inj H).trans hr_) (by decide)
              ·rw [if_neg c33] at H
               have c33b0 : ((t213.extract (x4_2 : Int).toNat (x5_2 : Int).toNat).toList == ([46] : List UInt8)) = false := beq_eq_false_iff_ne.mpr c33
               have c33b1 : ((t213.extract (x4_2 : Int).toNat (x5_2 : Int).toNat).toList != ([46] : List UInt8)) = true := bne_iff_ne.mpr c33
               by_cases c34 : (t213.extract (x4_2 : Int).toNat (x5_2 : Int).toNat).toList = ([46, 46] : List UInt8)
               ·rw [if_pos c34] at H
                have c34b0 : ((t213.extract (x4_2 : Int).toNat (x5_2 : Int).toNat).toList == ([46, 46] : List UInt8)) = true := beq_iff_eq.mpr c34
                have c34b1 : ((t213.extract (x4_2 : Int).toNat (x5_2 : Int).toNat).toList != ([46, 46] : List UInt8)) = false := bne_eq_false_iff_eq.mpr c34
                clear c34
                exact absurd ((Option.some.inj H).trans hr_) (by decide)
               ·rw [if_neg c34] at H
                have c34b0 : ((t213.extract (x4_2 : Int).toNat (x5_2 : Int).toNat).toList == ([46, 46] : List UInt8)) = false := beq_eq_false_iff_ne.mpr c34
                have c34b1 : ((t213.extract (x4_2 : Int).toNat (x5_2 : Int).toNat).toList != ([46, 46] : List UInt8)) = true := bne_iff_ne.mpr c34
                by_cases c35 : (t213.extract (x4_2 : Int).toNat (x5_2 : Int).toNat).toList = ([37, 50, 101] : List UInt8)
                ·rw [if_pos c35] at H
                 have c35b0 : ((t213.extract (x4_2 : Int).toNat (x5_2 : Int).toNat).toList == ([37, 50, 101] : List UInt8)) = true := beq_iff_eq.mpr c35
                 have c35b1 : ((t213.extract (x4_2 : Int).toNat (x5_2 : Int).toNat).toList != ([37, 50, 101] : List UInt8)) = false := bne_eq_false_iff_eq.mpr c35
                 clear c35
                 exact absurd ((Option.some.inj H).trans hr_) (by decide)
                ·rw [if_neg c35] at H
                 have c35b0 : ((t213.extract (x4_2 : Int).toNat (x5_2 : Int).toNat).toList == ([37, 50, 101] : List UInt8)) = false := beq_eq_false_iff_ne.mpr c35
                 have c35b1 : ((t213.extract (x4_2 : Int).toNat (x5_2 : Int).toNat).toList != ([37, 50, 101] : List UInt8)) = true := bne_iff_ne.mpr c35
                 by_cases c36 : (t213.extract (x4_2 : Int).toNat (x5_2 : Int).toNat).toList = ([37, 50, 69, 37, 50, 101] : List UInt8)
                 ·rw [if_pos c36] at H
                  have c36b0 : ((t213.extract (x4_2 : Int).toNat (x5_2 : Int).toNat).toList == ([37, 50, 69, 37, 50, 101] : List UInt8)) = true := beq_iff_eq.mpr c36
                  have c36b1 : ((t213.extract (x4_2 : Int).toNat (x5_2 : Int).toNat).toList != ([37, 50, 69, 37, 50, 101] : List UInt8)) = false := bne_eq_false_iff_eq.mpr c36
                  clear c36
                  exact absurd ((Option.some.inj H).trans hr_) (by decide)
                 ·rw [if_neg c36] at H
                  have c36b0 : ((t213.extract (x4_2 : Int).toNat (x5_2 : Int).toNat).toList == ([37, 50, 69, 37, 50, 101] : List UInt8)) = false := beq_eq_false_iff_ne.mpr c36
                  have c36b1 : ((t213.extract (x4_2 : Int).toNat (x5_2 : Int).toNat).toList != ([37, 50, 69, 37, 50, 101] : List UInt8)) = true := bne_iff_ne.mpr c36
                  by_cases c37 : (t213.extract (x4_2 : Int).toNat (x5_2 : Int).toNat).toList = ([46, 37, 50, 69] : List UInt8)
                  ·rw [if_pos c37] at H
                   have c37b0 : ((t213.extract (x4_2 : Int).toNat (x5_2 : Int).toNat).toList == ([46, 37, 50, 69] : List UInt8)) = true := beq_iff_eq.mpr c37
                   have c37b1 : ((t213.extract (x4_2 : Int).toNat (x5_2 : Int).toNat).toList != ([46, 37, 50, 69] : List UInt8)) = false := bne_eq_false_iff_eq.mpr c37
                   clear c37
                   exact absurd ((Option.some.inj H).trans hr_) (by decide)
                  ·rw [if_neg c37] at H
                   have c37b0 : ((t213.extract (x4_2 : Int).toNat (x5_2 : Int).toNat).toList == ([46, 37, 50, 69] : List UInt8)) = false := beq_eq_false_iff_ne.mpr c37
                   have c37b1 : ((t213.extract (x4_2 : Int).toNat (x5_2 : Int).toNat).toList != ([46, 37, 50, 69] : List UInt8)) = true := bne_iff_ne.mpr c37
                   have H' := Aside0.mk H
                   clear H
                   go_wp2
                   go_roundg kj24
                   case measure => have := HJ9.out; have := HK2.out; have := HJ24.out; omega
                   case rel => exact ⟨(wrap64 (x5_2 + 1)), (wrap64 (x5_2 + 1)), (by first | rfl | (simp; done) | (simp [*]; done)), (by first | rfl | (simp; done) | (simp [*]; done)), H', ⟨by have := HJ9.out; have := HK2.out; have := HJ24.out; omega⟩, ⟨by repeat (first | (with_reducible first | exact HB.out | apply below_alloc | apply pw_below_drewN | apply below_drew1) | exact HB.out)⟩⟩
             ·rw [if_neg c32] at H
              exact absurd H (by simp)
            ·rw [if_neg c31] at H
             exact absurd H (by simp)
           ·rw [if_neg c30] at H
            exact absurd H (by simp)
       ·rw [if_neg c24] at H
        have c24b0 : decide (x5_2 ≤ (t213.size : Int)) = false := decide_eq_false c24
        clear c24
        replace H := Option.bind_eq_some_iff.mp H
        obtain ⟨t215, A380, H⟩ := H
        replace H : (some t215) = some r := H
        have A38 := Aside0.mk A380
        clear A380
        clear hr_
        obtain rfl := Option.some.inj H
        go_wp2_with (first | ((with_reducible refine gate_callee (f := 33) rfl ?_); refine goesL_ (some 75) rfl rfl Tryd.func33 (by kernel_rfl) rfl #[] rfl (by (try simp only [List.map_toArray, List.map_cons, List.map_nil]); first | done | rfl | (simp only [List.length_drop, List.length_take]; rfl)) ?_; (with_reducible refine (lockkeeperlaw4_awake.calls k2  t215 _ ?side1 A38.out).mono ?_); (case side1 => exact ⟨by repeat (first | (with_reducible exact hM_.out) | (with_reducible exact LaidW.below hM_.out HB.out) | (with_reducible refine LaidW.alloc ?_ _) | (with_reducible refine LaidW.drewN ?_ _) | (with_reducible refine LaidW.drew ?_) | exact LaidW.below hM_.out (by repeat (first | (with_reducible first | exact HB.out | apply below_alloc | apply pw_below_drewN | apply below_drew1) | exact HB.out)))⟩); rintro e w39 ⟨rfl, hb⟩; refine ⟨_, rfl, ?_⟩; have n0_ := Aside0.mk (below_step (by repeat (first | (with_reducible first | exact HB.out | apply below_alloc | apply pw_below_drewN | apply below_drew1) | exact HB.out)) hb); clear HB; have HB := n0_; clear n0_; (try clear hb); (try clear hb2); (try clear hk); (try clear hi)))
        go_ret
        exact ⟨by first | rfl | (simp [errW_none, errW_some] <;> rfl) | (simp [*, errW_none, errW_some] <;> rfl), by repeat (first | (with_reducible first | exact HB.out | apply below_alloc | apply pw_below_drewN | apply below_drew1) | exact HB.out)⟩

end Go.Proofs.YtbfbidifodcedaaDoor.Pr
