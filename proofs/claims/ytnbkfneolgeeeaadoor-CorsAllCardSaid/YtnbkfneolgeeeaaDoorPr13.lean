-- Made by a program of this session (wip/xp/xp.py), over the print's words.
import Derived.Test.YtnbkfneolgeeeaaDoorPr0
import Derived.Test.YtnbkfneolgeeeaaDoorPr2
import Derived.Test.YtnbkfneolgeeeaaDoorPr3
import Derived.Test.YtnbkfneolgeeeaaDoorPr5
import Derived.Test.YtnbkfneolgeeeaaDoorPr8
import Derived.Test.YtnbkfneolgeeeaaDoorPr10
import Derived.Test.YtnbkfneolgeeeaaDoorPr12
namespace Go.Proofs.YtnbkfneolgeeeaaDoor.Pr
open Go.RowKit Go.Proofs.YtnbkfneolgeeeaaDoorW.PrintWords Go.Proofs.YtnbkfneolgeeeaaDoorW.PrintLast Go.Proofs.YtnbkfneolgeeeaaDoorW.PrintMore
attribute [local go_sem] max2_int min2_int max_two min_two max_three min_three max_four min_four   -- for this text's walks alone
set_option linter.unusedVariables false
set_option linter.unusedSimpArgs false

/-! ### lockkeeperlaw15_CorsAll: function 3 -/
def lockkeeperlaw15_CorsAll.j0 : Nat → ByteArray → Bool → List (S35) → Bool → Option (Bool)
 | 0, _, _, _, _ => none
 | k + 1, x0, x1, x2, x13 => if x13 = true then ((lockkeeperlaw15_awake.f k).bind fun t260 => (some t260)) else ((cors_Check.f k x0 x1 x2).bind fun t261 => ((lockkeeperref15_Check.f k x0 x1 x2).bind fun t262 => (if t261 = t262 then ((cors_Seen.f k x1 x2).bind fun t263 => ((lockkeeperref15_Seen.f k x1 x2).bind fun t266 => ((lockkeeperlaw0_Headers.f k t263 t266).bind fun t269 => (if t269 = true then ((lockkeeperlaw15_awake.f k).bind fun t270 => (some t270)) else (some false))))) else (some false))))
def lockkeeperlaw15_CorsAll.f (k : Nat) (a0 : ByteArray) (a1 : Bool) (l2 : List (S35)) : Option (Bool) := (lockkeeperlaw0_Long.f k 700 (([a0] : List ByteArray))).bind fun t258 => (if t258 = true then (lockkeeperlaw15_CorsAll.j0 k a0 a1 l2 true) else ((lockkeeperlaw0_GreatHeaders.f k l2).bind fun t259 => (lockkeeperlaw15_CorsAll.j0 k a0 a1 l2 t259)))
theorem lockkeeperlaw15_CorsAll.mono_l : ∀ k, (∀ y0 y1 y2 y3, LeO (lockkeeperlaw15_CorsAll.j0 k y0 y1 y2 y3) (lockkeeperlaw15_CorsAll.j0 (k + 1) y0 y1 y2 y3))
 | 0 => fun _ _ _ _ r h => by simp [lockkeeperlaw15_CorsAll.j0] at h
 | k + 1 => by
  have ih0 := lockkeeperlaw15_CorsAll.mono_l k
  ·intro y0 y1 y2 y3
   unfold lockkeeperlaw15_CorsAll.j0
   repeat' first
   | (with_reducible exact ih0 _ _ _ _)
   | (with_reducible exact cors_Check.mono _ _ _ _)
   | (with_reducible exact cors_Seen.mono _ _ _)
   | (with_reducible exact lockkeeperlaw0_GreatHeaders.mono _ _)
   | (with_reducible exact lockkeeperlaw0_Headers.mono _ _ _)
   | (with_reducible exact lockkeeperlaw0_Long.mono _ _ _)
   | (with_reducible exact lockkeeperlaw15_awake.mono _)
   | (with_reducible exact lockkeeperref15_Check.mono _ _ _ _)
   | (with_reducible exact lockkeeperref15_Seen.mono _ _ _)
   | (with_reducible exact LeO.refl _)
   | (with_reducible exact LeO.none _)
   | (with_reducible refine LeO.ite ?_ ?_)
   | (with_reducible refine LeO.bind ?_ (fun _ => ?_))
   | exact ih0 _ _ _ _
   | exact cors_Check.mono _ _ _ _
   | exact cors_Seen.mono _ _ _
   | exact lockkeeperlaw0_GreatHeaders.mono _ _
   | exact lockkeeperlaw0_Headers.mono _ _ _
   | exact lockkeeperlaw0_Long.mono _ _ _
   | exact lockkeeperlaw15_awake.mono _
   | exact lockkeeperref15_Check.mono _ _ _ _
   | exact lockkeeperref15_Seen.mono _ _ _
   | exact LeO.none _
   | refine LeO.ite ?_ ?_
   | refine LeO.bind ?_ (fun _ => ?_)
theorem lockkeeperlaw15_CorsAll.mono : ∀ a0 a1 a2 k, LeO (lockkeeperlaw15_CorsAll.f k a0 a1 a2) (lockkeeperlaw15_CorsAll.f (k + 1) a0 a1 a2) := by
 intro a0 a1 a2 k
 have ih0 := lockkeeperlaw15_CorsAll.mono_l k
 unfold lockkeeperlaw15_CorsAll.f
 repeat' first
   | (with_reducible exact ih0 _ _ _ _)
   | (with_reducible exact cors_Check.mono _ _ _ _)
   | (with_reducible exact cors_Seen.mono _ _ _)
   | (with_reducible exact lockkeeperlaw0_GreatHeaders.mono _ _)
   | (with_reducible exact lockkeeperlaw0_Headers.mono _ _ _)
   | (with_reducible exact lockkeeperlaw0_Long.mono _ _ _)
   | (with_reducible exact lockkeeperlaw15_awake.mono _)
   | (with_reducible exact lockkeeperref15_Check.mono _ _ _ _)
   | (with_reducible exact lockkeeperref15_Seen.mono _ _ _)
   | (with_reducible exact LeO.refl _)
   | (with_reducible exact LeO.none _)
   | (with_reducible refine LeO.ite ?_ ?_)
   | (with_reducible refine LeO.bind ?_ (fun _ => ?_))
   | exact ih0 _ _ _ _
   | exact cors_Check.mono _ _ _ _
   | exact cors_Seen.mono _ _ _
   | exact lockkeeperlaw0_GreatHeaders.mono _ _
   | exact lockkeeperlaw0_Headers.mono _ _ _
   | exact lockkeeperlaw0_Long.mono _ _ _
   | exact lockkeeperlaw15_awake.mono _
   | exact lockkeeperref15_Check.mono _ _ _ _
   | exact lockkeeperref15_Seen.mono _ _ _
   | exact LeO.none _
   | refine LeO.ite ?_ ?_
   | refine LeO.bind ?_ (fun _ => ?_)
set_option maxHeartbeats 8000000 in
set_option maxRecDepth 100000 in
theorem lockkeeperlaw15_CorsAll.calls (k : Nat) (a0 : ByteArray) (a1 : Bool) (A2 : Option Addr) (c2 : Nat) (l2 : List (S35)) (r : Bool) (w : World) (hr2 : Kd.C k35 w A2 l2.length l2) (hc2 : l2.length ≤ c2) (hr_ : r = true) (h : lockkeeperlaw15_CorsAll.f k a0 a1 l2 = some r) :
  Calls Tryd.prog 3 #[.string a0, .bool a1, .slice A2 l2.length c2] w fun e w' => e = .returned (.bool r) ∧ Below w.heap.size w w' := by
 have HR2 := Aside0.mk hr2
 have HC2 := Aside0.mk hc2
 clear hr2 hc2
 have HB := Aside0.mk (Below.refl w.heap.size w)
 have H : ((lockkeeperlaw0_Long.f k 700 (([a0] : List ByteArray))).bind fun t258 => (if t258 = true then (lockkeeperlaw15_CorsAll.j0 k a0 a1 l2 true) else ((lockkeeperlaw0_GreatHeaders.f k l2).bind fun t259 => (lockkeeperlaw15_CorsAll.j0 k a0 a1 l2 t259)))) = some r := h
 clear h
 have HC4 := Aside0.mk H
 clear H
 go_enter Tryd.func3, Tryd.ntmps3
 go_upto_region 1 with (fail)
 go_cut [13] (fun v13 wc => ∃ (kq : Nat) (x13_3 : Bool), v13 = .bool x13_3 ∧ Aside0 (lockkeeperlaw15_CorsAll.j0 kq a0 a1 l2 x13_3 = some r) ∧ Aside0 (kq ≤ k) ∧ Aside0 (Below w.heap.size w wc))
 case first =>
  have H := HC4.out
  clear HC4
  obtain ⟨y255, hy255⟩ : ∃ y_ : List ByteArray, y_ = (([a0] : List ByteArray)) := ⟨_, rfl⟩
  replace H : ((lockkeeperlaw0_Long.f k 700 y255).bind fun t258 => (if t258 = true then (lockkeeperlaw15_CorsAll.j0 k a0 a1 l2 true) else ((lockkeeperlaw0_GreatHeaders.f k l2).bind fun t259 => (lockkeeperlaw15_CorsAll.j0 k a0 a1 l2 t259)))) = some r := by first | (rw [hy255]; with_reducible exact H) | (have H2_ := (Option.bind_some _ _).symm.trans H; rw [hy255]; with_reducible exact H2_) | (have H2_ := (Option.bind_some _ _).symm.trans H; with_reducible exact H2_) | with_reducible exact H | (rw [hy255]; exact H) | exact H
  have Ny255 := Aside0.mk hy255
  clear hy255
  replace H := Option.bind_eq_some_iff.mp H
  obtain ⟨t258, A50, H⟩ := H
  replace H : (if t258 = true then (lockkeeperlaw15_CorsAll.j0 k a0 a1 l2 true) else ((lockkeeperlaw0_GreatHeaders.f k l2).bind fun t259 => (lockkeeperlaw15_CorsAll.j0 k a0 a1 l2 t259))) = some r := H
  have A5 := Aside0.mk A50
  clear A50
  by_cases c6 : t258 = true
  ·subst c6
   have H1 : (lockkeeperlaw15_CorsAll.j0 k a0 a1 l2 true) = some r := by rw [if_pos rfl] at H; exact H
   clear H
   have H := H1
   clear H1
   have H' := Aside0.mk H
   clear H
   go_wp2_with (first | ((with_reducible refine gate_dst (N := 8) rfl ?_); refine Kd.R_lit Kd.string _ 9 ?hg (N := 8) ?hd (xs := ([a0] : List ByteArray)) (inner := [.string a0]) (ok := fun _ => True) (okp := fun _ => True) ?hr ?hp (fun _ hk => hk) trivial (Below.refl _ _) (Nat.le_refl _) (by simp) ?_; (case hd => rfl); (case hg => rfl); (case hr => first | (go_simp; done) | (go_simp; rfl)); (case hp => exact (Reps.one (show Kd.M Kd.string _ _ _ a0 [.string a0] from rfl) (Reps.none _ _))); intro v256 w7 ho8 hb hg_ hnew_; clear hg_ hnew_; (first | rw [← Ny255.out] at ho8 | (simp only [Int.reduceToNat] at ho8; rw [← Ny255.out] at ho8)); have n0_ := Aside0.mk (Kd.R_lower ho8 (below_size (by repeat (first | (with_reducible first | exact HB.out | apply below_alloc | apply pw_below_drewN | apply below_drew1) | exact HB.out)))); have n1_ := Aside0.mk (below_step (by repeat (first | (with_reducible first | exact HB.out | apply below_alloc | apply pw_below_drewN | apply below_drew1) | exact HB.out)) hb); clear HB; have HO257 := n0_; have HB := n1_; clear n0_ n1_; clear hb ho8; obtain ⟨Ao9, co9, eo9⟩ := Kd.R_slice HO257.out; subst eo9) | ((with_reducible refine gate_callee (f := 6) rfl ?_); refine goesL_ (some 9) rfl rfl Tryd.func6 (by kernel_rfl) rfl #[.int .i64 700, .slice Ao9 y255.length co9] rfl (by (try simp only [List.map_toArray, List.map_cons, List.map_nil]); first | done | rfl | (simp only [List.length_drop, List.length_take]; rfl)) ?_; (with_reducible refine (lockkeeperlaw0_Long.calls k 700 _ _ y255 true _ ?side1 ?side2 A5.out).mono ?_); (case side1 => repeat (first | exact (Kd.R_reads' HO257.out).2.2 | (with_reducible refine Kd.C_alloc ?_ _) | (with_reducible refine Kd.C_drewN ?_ _) | (with_reducible refine Kd.C_drew ?_))); (case side2 => exact (Kd.R_reads' HO257.out).2.1); rintro e w' ⟨rfl, ⟨nd, rfl⟩⟩; refine ⟨_, rfl, ?_⟩))
   go_meet
   case rel => exact ⟨_, (true), (by first | rfl | (simp; done) | (simp [*]; done)), H', ⟨by first | omega | exact Nat.le_refl _⟩, ⟨by repeat (first | (with_reducible first | exact HB.out | apply below_alloc | apply pw_below_drewN | apply below_drew1) | exact HB.out)⟩⟩
  ·replace c6 := Bool.eq_false_iff.mpr c6
   subst c6
   have H1 : ((lockkeeperlaw0_GreatHeaders.f k l2).bind fun t259 => (lockkeeperlaw15_CorsAll.j0 k a0 a1 l2 t259)) = some r := by rw [if_neg (show ¬ (false = true) by decide)] at H; exact H
   clear H
   have H := H1
   clear H1
   replace H := Option.bind_eq_some_iff.mp H
   obtain ⟨t259, A100, H⟩ := H
   replace H : (lockkeeperlaw15_CorsAll.j0 k a0 a1 l2 t259) = some r := H
   have A10 := Aside0.mk A100
   clear A100
   have H' := Aside0.mk H
   clear H
   go_wp2_with (first | ((with_reducible refine gate_dst (N := 8) rfl ?_); refine Kd.R_lit Kd.string _ 9 ?hg (N := 8) ?hd (xs := ([a0] : List ByteArray)) (inner := [.string a0]) (ok := fun _ => True) (okp := fun _ => True) ?hr ?hp (fun _ hk => hk) trivial (Below.refl _ _) (Nat.le_refl _) (by simp) ?_; (case hd => rfl); (case hg => rfl); (case hr => first | (go_simp; done) | (go_simp; rfl)); (case hp => exact (Reps.one (show Kd.M Kd.string _ _ _ a0 [.string a0] from rfl) (Reps.none _ _))); intro v256 w11 ho12 hb hg_ hnew_; clear hg_ hnew_; (first | rw [← Ny255.out] at ho12 | (simp only [Int.reduceToNat] at ho12; rw [← Ny255.out] at ho12)); have n0_ := Aside0.mk (Kd.R_lower ho12 (below_size (by repeat (first | (with_reducible first | exact HB.out | apply below_alloc | apply pw_below_drewN | apply below_drew1) | exact HB.out)))); have n1_ := Aside0.mk (below_step (by repeat (first | (with_reducible first | exact HB.out | apply below_alloc | apply pw_below_drewN | apply below_drew1) | exact HB.out)) hb); clear HB; have HO257 := n0_; have HB := n1_; clear n0_ n1_; clear hb ho12; obtain ⟨Ao13, co13, eo13⟩ := Kd.R_slice HO257.out; subst eo13) | ((with_reducible refine gate_callee (f := 6) rfl ?_); refine goesL_ (some 9) rfl rfl Tryd.func6 (by kernel_rfl) rfl #[.int .i64 700, .slice Ao13 y255.length co13] rfl (by (try simp only [List.map_toArray, List.map_cons, List.map_nil]); first | done | rfl | (simp only [List.length_drop, List.length_take]; rfl)) ?_; (with_reducible refine (lockkeeperlaw0_Long.calls k 700 _ _ y255 false _ ?side1 ?side2 A5.out).mono ?_); (case side1 => repeat (first | exact (Kd.R_reads' HO257.out).2.2 | (with_reducible refine Kd.C_alloc ?_ _) | (with_reducible refine Kd.C_drewN ?_ _) | (with_reducible refine Kd.C_drew ?_))); (case side2 => exact (Kd.R_reads' HO257.out).2.1); rintro e w' ⟨rfl, ⟨nd, rfl⟩⟩; refine ⟨_, rfl, ?_⟩) | (go_at_call 7; (with_reducible refine (lockkeeperlaw0_GreatHeaders.calls k _ _ l2 t259 _ ?side1 ?side2 A10.out).mono ?_); (case side1 => repeat (first | exact (Kd.C_below HR2.out (by repeat (first | (with_reducible first | exact HB.out | apply below_alloc | apply pw_below_drewN | apply below_drew1) | exact HB.out))) | (with_reducible refine Kd.C_alloc ?_ _) | (with_reducible refine Kd.C_drewN ?_ _) | (with_reducible refine Kd.C_drew ?_))); (case side2 => exact HC2.out); rintro e w' ⟨rfl, ⟨nd, rfl⟩⟩))
   go_meet
   case rel => exact ⟨_, (t259), (by first | rfl | (simp; done) | (simp [*]; done)), H', ⟨by first | omega | exact Nat.le_refl _⟩, ⟨by repeat (first | (with_reducible first | exact HB.out | apply below_alloc | apply pw_below_drewN | apply below_drew1) | exact HB.out)⟩⟩
 case rest =>
  clear HC4
  try clear c2
  try clear p2
  try clear c3
  try clear c6
  obtain ⟨kq, x13_3, rfl, HA, HJ3, HB⟩ := hcut
  cases kq with
  | zero => exact absurd HA.out (by simp [lockkeeperlaw15_CorsAll.j0])
  | succ kj3 =>
   have H := HA.out
   clear HA
   simp only [lockkeeperlaw15_CorsAll.j0] at H
   by_cases c14 : x13_3 = true
   ·subst c14
    have H1 : ((lockkeeperlaw15_awake.f kj3).bind fun t260 => (some t260)) = some r := by rw [if_pos rfl] at H; exact H
    clear H
    have H := H1
    clear H1
    replace H := Option.bind_eq_some_iff.mp H
    obtain ⟨t260, A150, H⟩ := H
    replace H : (some t260) = some r := H
    have A15 := Aside0.mk A150
    clear A150
    clear hr_
    obtain rfl := Option.some.inj H
    go_wp2_with (first | ((with_reducible refine gate_callee (f := 8) rfl ?_); refine goesL_ (some 14) rfl rfl Tryd.func8 (by kernel_rfl) rfl #[] rfl (by (try simp only [List.map_toArray, List.map_cons, List.map_nil]); first | done | rfl | (simp only [List.length_drop, List.length_take]; rfl)) ?_; (with_reducible refine (lockkeeperlaw15_awake.calls kj3  t260 _ A15.out).mono ?_); rintro e w16 ⟨rfl, hb⟩; refine ⟨_, rfl, ?_⟩; have n0_ := Aside0.mk (below_step (by repeat (first | (with_reducible first | exact HB.out | apply below_alloc | apply pw_below_drewN | apply below_drew1) | exact HB.out)) hb); clear HB; have HB := n0_; clear n0_; (try clear hb); (try clear hb2); (try clear hk); (try clear hi)))
    go_ret
    exact ⟨by first | rfl | (simp [errW_none, errW_some] <;> rfl) | (simp [*, errW_none, errW_some] <;> rfl), by repeat (first | (with_reducible first | exact HB.out | apply below_alloc | apply pw_below_drewN | apply below_drew1) | exact HB.out)⟩
   ·replace c14 := Bool.eq_false_iff.mpr c14
    subst c14
    have H1 : ((cors_Check.f kj3 a0 a1 l2).bind fun t261 => ((lockkeeperref15_Check.f kj3 a0 a1 l2).bind fun t262 => (if t261 = t262 then ((cors_Seen.f kj3 a1 l2).bind fun t263 => ((lockkeeperref15_Seen.f kj3 a1 l2).bind fun t266 => ((lockkeeperlaw0_Headers.f kj3 t263 t266).bind fun t269 => (if t269 = true then ((lockkeeperlaw15_awake.f kj3).bind fun t270 => (some t270)) else (some false))))) else (some false)))) = some r := by rw [if_neg (show ¬ (false = true) by decide)] at H; exact H
    clear H
    have H := H1
    clear H1
    replace H := Option.bind_eq_some_iff.mp H
    obtain ⟨t261, A170, H⟩ := H
    replace H : ((lockkeeperref15_Check.f kj3 a0 a1 l2).bind fun t262 => (if t261 = t262 then ((cors_Seen.f kj3 a1 l2).bind fun t263 => ((lockkeeperref15_Seen.f kj3 a1 l2).bind fun t266 => ((lockkeeperlaw0_Headers.f kj3 t263 t266).bind fun t269 => (if t269 = true then ((lockkeeperlaw15_awake.f kj3).bind fun t270 => (some t270)) else (some false))))) else (some false))) = some r := H
    have A17 := Aside0.mk A170
    clear A170
    replace H := Option.bind_eq_some_iff.mp H
    obtain ⟨t262, A180, H⟩ := H
    replace H : (if t261 = t262 then ((cors_Seen.f kj3 a1 l2).bind fun t263 => ((lockkeeperref15_Seen.f kj3 a1 l2).bind fun t266 => ((lockkeeperlaw0_Headers.f kj3 t263 t266).bind fun t269 => (if t269 = true then ((lockkeeperlaw15_awake.f kj3).bind fun t270 => (some t270)) else (some false))))) else (some false)) = some r := H
    have A18 := Aside0.mk A180
    clear A180
    by_cases c19 : t261 = t262
    ·rw [if_pos c19] at H
     have c19b0 : (t261 == t262) = true := beq_iff_eq.mpr c19
     have c19b1 : (t261 != t262) = false := bne_eq_false_iff_eq.mpr c19
     clear c19
     replace H := Option.bind_eq_some_iff.mp H
     obtain ⟨t263, A200, H⟩ := H
     replace H : ((lockkeeperref15_Seen.f kj3 a1 l2).bind fun t266 => ((lockkeeperlaw0_Headers.f kj3 t263 t266).bind fun t269 => (if t269 = true then ((lockkeeperlaw15_awake.f kj3).bind fun t270 => (some t270)) else (some false)))) = some r := H
     have A20 := Aside0.mk A200
     clear A200
     replace H := Option.bind_eq_some_iff.mp H
     obtain ⟨t266, A210, H⟩ := H
     replace H : ((lockkeeperlaw0_Headers.f kj3 t263 t266).bind fun t269 => (if t269 = true then ((lockkeeperlaw15_awake.f kj3).bind fun t270 => (some t270)) else (some false))) = some r := H
     have A21 := Aside0.mk A210
     clear A210
     replace H := Option.bind_eq_some_iff.mp H
     obtain ⟨t269, A220, H⟩ := H
     replace H : (if t269 = true then ((lockkeeperlaw15_awake.f kj3).bind fun t270 => (some t270)) else (some false)) = some r := H
     have A22 := Aside0.mk A220
     clear A220
     by_cases c23 : t269 = true
     ·subst c23
      have H1 : ((lockkeeperlaw15_awake.f kj3).bind fun t270 => (some t270)) = some r := by rw [if_pos rfl] at H; exact H
      clear H
      have H := H1
      clear H1
      replace H := Option.bind_eq_some_iff.mp H
      obtain ⟨t270, A240, H⟩ := H
      replace H : (some t270) = some r := H
      have A24 := Aside0.mk A240
      clear A240
      clear hr_
      obtain rfl := Option.some.inj H
      go_wp2_with (first | ((with_reducible refine gate_callee (f := 9) rfl ?_); refine goesL_ (some 18) rfl rfl Tryd.func9 (by kernel_rfl) rfl #[.string a0, .bool a1, .slice A2 l2.length c2] rfl (by (try simp only [List.map_toArray, List.map_cons, List.map_nil]); first | done | rfl | (simp only [List.length_drop, List.length_take]; rfl)) ?_; (with_reducible refine (cors_Check.calls kj3 a0 a1 _ _ l2 t261 _ ?side1 ?side2 A17.out).mono ?_); (case side1 => repeat (first | exact (Kd.C_below HR2.out HB.out) | (with_reducible refine Kd.C_alloc ?_ _) | (with_reducible refine Kd.C_drewN ?_ _) | (with_reducible refine Kd.C_drew ?_))); (case side2 => exact HC2.out); rintro e w25 ⟨rfl, hb⟩; refine ⟨_, rfl, ?_⟩; have n0_ := Aside0.mk (below_step (by repeat (first | (with_reducible first | exact HB.out | apply below_alloc | apply pw_below_drewN | apply below_drew1) | exact HB.out)) hb); clear HB; have HB := n0_; clear n0_; (try clear hb); (try clear hb2); (try clear hk); (try clear hi)) | ((with_reducible refine gate_callee (f := 10) rfl ?_); refine goesL_ (some 22) rfl rfl Tryd.func10 (by kernel_rfl) rfl #[.string a0, .bool a1, .slice A2 l2.length c2] rfl (by (try simp only [List.map_toArray, List.map_cons, List.map_nil]); first | done | rfl | (simp only [List.length_drop, List.length_take]; rfl)) ?_; (with_reducible refine (lockkeeperref15_Check.calls kj3 a0 a1 _ _ l2 t262 _ ?side1 ?side2 A18.out).mono ?_); (case side1 => repeat (first | exact (Kd.C_below HR2.out HB.out) | (with_reducible refine Kd.C_alloc ?_ _) | (with_reducible refine Kd.C_drewN ?_ _) | (with_reducible refine Kd.C_drew ?_))); (case side2 => exact HC2.out); rintro e w26 ⟨rfl, hb⟩; refine ⟨_, rfl, ?_⟩; have n0_ := Aside0.mk (below_step (by repeat (first | (with_reducible first | exact HB.out | apply below_alloc | apply pw_below_drewN | apply below_drew1) | exact HB.out)) hb); clear HB; have HB := n0_; clear n0_; (try clear hb); (try clear hb2); (try clear hk); (try clear hi)) | (go_at_call 12; (with_reducible refine (cors_Seen.calls kj3 a1 _ _ l2 t263 _ ?side1 ?side2 A20.out).mono ?_); (case side1 => repeat (first | exact (Kd.C_below HR2.out HB.out) | (with_reducible refine Kd.C_alloc ?_ _) | (with_reducible refine Kd.C_drewN ?_ _) | (with_reducible refine Kd.C_drew ?_))); (case side2 => exact HC2.out); rintro e w27 ⟨v264, rfl, ho0, hb⟩; have n0_ := Aside0.mk (Kd.R_lower ho0 (below_size (by repeat (first | (with_reducible first | exact HB.out | apply below_alloc | apply pw_below_drewN | apply below_drew1) | exact HB.out)))); have n1_ := Aside0.mk (below_step (by repeat (first | (with_reducible first | exact HB.out | apply below_alloc | apply pw_below_drewN | apply below_drew1) | exact HB.out)) hb); clear HB; have HO265 := n0_; have HB := n1_; clear n0_ n1_; (try clear hb); (try clear hb2); (try clear hk); (try clear hi); (try clear ho0)) | (go_at_call 13; (with_reducible refine (lockkeeperref15_Seen.calls kj3 a1 _ _ l2 t266 _ ?side1 ?side2 A21.out).mono ?_); (case side1 => repeat (first | exact (Kd.C_below HR2.out HB.out) | (with_reducible refine Kd.C_alloc ?_ _) | (with_reducible refine Kd.C_drewN ?_ _) | (with_reducible refine Kd.C_drew ?_))); (case side2 => exact HC2.out); rintro e w28 ⟨v267, rfl, ho0, hb⟩; have n0_ := Aside0.mk (Kd.R_elder' (by (with_reducible repeat (first | apply Kd.R_alloc | apply Kd.R_drewN | apply Kd.R_drew)); exact HO265.out) (Kd.R_base ho0) hb); have n1_ := Aside0.mk (Kd.R_lower (Kd.R_new' ho0 (Kd.R_lt (by (with_reducible repeat (first | apply Kd.R_alloc | apply Kd.R_drewN | apply Kd.R_drew)); exact HO265.out))) (below_size (by repeat (first | (with_reducible first | exact HB.out | apply below_alloc | apply pw_below_drewN | apply below_drew1) | exact HB.out)))); have n2_ := Aside0.mk (below_step (by repeat (first | (with_reducible first | exact HB.out | apply below_alloc | apply pw_below_drewN | apply below_drew1) | exact HB.out)) hb); clear HO265; clear HB; have HO265 := n0_; have HO268 := n1_; have HB := n2_; clear n0_ n1_ n2_; (try clear hb); (try clear hb2); (try clear hk); (try clear hi); (try clear ho0); obtain ⟨Ao29, co29, eo29⟩ := Kd.R_slice HO265.out; subst eo29; obtain ⟨Ao30, co30, eo30⟩ := Kd.R_slice HO268.out; subst eo30) | (go_at_call 11; (with_reducible refine (lockkeeperlaw0_Headers.calls kj3 _ _ t263 _ _ t266 true _ ?side1 ?side2 ?side3 ?side4 A22.out).mono ?_); (case side1 => repeat (first | exact (Kd.R_reads' HO265.out).2.2 | (with_reducible refine Kd.C_alloc ?_ _) | (with_reducible refine Kd.C_drewN ?_ _) | (with_reducible refine Kd.C_drew ?_))); (case side2 => exact (Kd.R_reads' HO265.out).2.1); (case side3 => repeat (first | exact (Kd.R_reads' HO268.out).2.2 | (with_reducible refine Kd.C_alloc ?_ _) | (with_reducible refine Kd.C_drewN ?_ _) | (with_reducible refine Kd.C_drew ?_))); (case side4 => exact (Kd.R_reads' HO268.out).2.1); rintro e w' ⟨rfl, ⟨nd, rfl⟩⟩) | (go_at_call 8; (with_reducible refine (lockkeeperlaw15_awake.calls kj3  t270 _ A24.out).mono ?_); rintro e w31 ⟨rfl, hb⟩; have n0_ := Aside0.mk (Kd.R_below (by (with_reducible repeat (first | apply Kd.R_alloc | apply Kd.R_drewN | apply Kd.R_drew)); exact HO265.out) hb); have n1_ := Aside0.mk (Kd.R_below (by (with_reducible repeat (first | apply Kd.R_alloc | apply Kd.R_drewN | apply Kd.R_drew)); exact HO268.out) hb); have n2_ := Aside0.mk (below_step (by repeat (first | (with_reducible first | exact HB.out | apply below_alloc | apply pw_below_drewN | apply below_drew1) | exact HB.out)) hb); clear HO265; clear HO268; clear HB; have HO265 := n0_; have HO268 := n1_; have HB := n2_; clear n0_ n1_ n2_; (try clear hb); (try clear hb2); (try clear hk); (try clear hi)))
      go_ret
      exact ⟨by first | rfl | (simp [errW_none, errW_some] <;> rfl) | (simp [*, errW_none, errW_some] <;> rfl), by repeat (first | (with_reducible first | exact HB.out | apply below_alloc | apply pw_below_drewN | apply below_drew1) | exact HB.out)⟩
     ·replace c23 := Bool.eq_false_iff.mpr c23
      subst c23
      have H1 : (some false) = some r := by rw [if_neg (show ¬ (false = true) by decide)] at H; exact H
      clear H
      have H := H1
      clear H1
      exact absurd ((Option.some.inj H).trans hr_) (by decide)
    ·rw [if_neg c19] at H
     have c19b0 : (t261 == t262) = false := beq_eq_false_iff_ne.mpr c19
     have c19b1 : (t261 != t262) = true := bne_iff_ne.mpr c19
     exact absurd ((Option.some.inj H).trans hr_) (by decide)
end Go.Proofs.YtnbkfneolgeeeaaDoor.Pr
