-- Made by a program of this session (wip/xp/xp.py), over the print's words.
import Derived.Test.YtojcceafgkdchaaPr0
import Derived.Test.YtojcceafgkdchaaPr2
import Derived.Test.YtojcceafgkdchaaPr5
import Derived.Test.YtojcceafgkdchaaPr10
import Derived.Test.YtojcceafgkdchaaPr12
import Derived.Test.YtojcceafgkdchaaG0
import Derived.Test.YtojcceafgkdchaaG1
namespace Go.Proofs.Ytojcceafgkdchaa.Pr
open Go.RowKit Go.Proofs.YtojcceafgkdchaaW.PrintWords Go.Proofs.YtojcceafgkdchaaW.PrintLast Go.Proofs.YtojcceafgkdchaaW.PrintMore
attribute [local go_sem] max2_int min2_int max_two min_two max_three min_three max_four min_four   -- for this text's walks alone
set_option linter.unusedVariables false
set_option linter.unusedSimpArgs false

/-! ### lockkeeperlaw7_SafeTypes: function 8 -/
def lockkeeperlaw7_SafeTypes.l0 : Nat → Int → ByteArray → ByteArray → Bool → Int → Option (Bool)
  | 0, _, _, _, _, _ => none
  | k + 1, x1, x2, x7, x8, x9 => if x9 < (x2.size : Int) then (if x8 = true then (if 0 ≤ x9 then ((safe_Byte.f (bt x2 x9)).bind fun t726 => (lockkeeperlaw7_SafeTypes.l0 k x1 x2 x7 t726 (wrap64 (x9 + 1)))) else (none)) else (lockkeeperlaw7_SafeTypes.l0 k x1 x2 x7 false (wrap64 (x9 + 1)))) else ((lockkeeperlaw0_Flip.f x7 x1).bind fun t727 => (if t727.size + 2 ≤ 9223372036854775807 then (if (t727 ++ (⟨#[32, 59]⟩ : ByteArray)).size + x2.size ≤ 9223372036854775807 then (if ((t727 ++ (⟨#[32, 59]⟩ : ByteArray)) ++ x2).size + 1 ≤ 9223372036854775807 then ((safe_Header.f k (⟨#[67, 111, 110, 116, 101, 110, 116, 45, 84, 121, 112, 101]⟩ : ByteArray) (((t727 ++ (⟨#[32, 59]⟩ : ByteArray)) ++ x2) ++ (⟨#[59]⟩ : ByteArray))).bind fun t728 => (if (t728 == x8) = true then ((lockkeeperlaw7_awake.f k).bind fun t729 => (some t729)) else (some false))) else (none)) else (none)) else (none)))
def lockkeeperlaw7_SafeTypes.f (k : Nat) (a0 : Int) (a1 : Int) (a2 : ByteArray) : Option (Bool) := (lockkeeperlaw0_Long.f k 60 (([a2] : List ByteArray))).bind fun t722 => (if t722 = true then ((lockkeeperlaw7_awake.f k).bind fun t723 => (some t723)) else ((lockkeeperlaw0_Low.f a0 6).bind fun t724 => (if 0 ≤ t724 then (if t724 < 6 then ((lockkeeperlaw0_Low.f a0 6).bind fun t725 => (lockkeeperlaw7_SafeTypes.l0 k a1 a2 (rdOf ByteArray.empty ([(⟨#[97, 112, 112, 108, 105, 99, 97, 116, 105, 111, 110, 47, 120, 45, 119, 119, 119, 45, 102, 111, 114, 109, 45, 117, 114, 108, 101, 110, 99, 111, 100, 101, 100]⟩ : ByteArray), (⟨#[109, 117, 108, 116, 105, 112, 97, 114, 116, 47, 102, 111, 114, 109, 45, 100, 97, 116, 97]⟩ : ByteArray), (⟨#[116, 101, 120, 116, 47, 112, 108, 97, 105, 110]⟩ : ByteArray), (⟨#[116, 101, 120, 116, 47, 104, 116, 109, 108]⟩ : ByteArray), (⟨#[116, 101, 120, 116]⟩ : ByteArray), (⟨#[116, 101, 120, 116, 47, 112, 108, 97, 105, 110, 47, 120]⟩ : ByteArray)] : List ByteArray) t724) (decide (t725 < 3)) 0)) else (none)) else (none))))
theorem lockkeeperlaw7_SafeTypes.mono_l : ∀ k, (∀ y0 y1 y2 y3 y4, LeO (lockkeeperlaw7_SafeTypes.l0 k y0 y1 y2 y3 y4) (lockkeeperlaw7_SafeTypes.l0 (k + 1) y0 y1 y2 y3 y4))
  | 0 => fun _ _ _ _ _ r h => by simp [lockkeeperlaw7_SafeTypes.l0] at h
  | k + 1 => by
    have ih0 := lockkeeperlaw7_SafeTypes.mono_l k
    · intro y0 y1 y2 y3 y4
      unfold lockkeeperlaw7_SafeTypes.l0
      repeat' first
      | (with_reducible exact ih0 _ _ _ _ _)
      | (with_reducible exact lockkeeperlaw0_Long.mono _ _ _)
      | (with_reducible exact lockkeeperlaw7_awake.mono _)
      | (with_reducible exact safe_Header.mono _ _ _)
      | (with_reducible exact LeO.refl _)
      | (with_reducible exact LeO.none _)
      | (with_reducible refine LeO.ite ?_ ?_)
      | (with_reducible refine LeO.bind ?_ (fun _ => ?_))
      | exact ih0 _ _ _ _ _
      | exact lockkeeperlaw0_Long.mono _ _ _
      | exact lockkeeperlaw7_awake.mono _
      | exact safe_Header.mono _ _ _
      | exact LeO.none _
      | refine LeO.ite ?_ ?_
      | refine LeO.bind ?_ (fun _ => ?_)
theorem lockkeeperlaw7_SafeTypes.mono : ∀ a0 a1 a2 k, LeO (lockkeeperlaw7_SafeTypes.f k a0 a1 a2) (lockkeeperlaw7_SafeTypes.f (k + 1) a0 a1 a2) := by
  intro a0 a1 a2 k
  have ih0 := lockkeeperlaw7_SafeTypes.mono_l k
  unfold lockkeeperlaw7_SafeTypes.f
  repeat' first
      | (with_reducible exact ih0 _ _ _ _ _)
      | (with_reducible exact lockkeeperlaw0_Long.mono _ _ _)
      | (with_reducible exact lockkeeperlaw7_awake.mono _)
      | (with_reducible exact safe_Header.mono _ _ _)
      | (with_reducible exact LeO.refl _)
      | (with_reducible exact LeO.none _)
      | (with_reducible refine LeO.ite ?_ ?_)
      | (with_reducible refine LeO.bind ?_ (fun _ => ?_))
      | exact ih0 _ _ _ _ _
      | exact lockkeeperlaw0_Long.mono _ _ _
      | exact lockkeeperlaw7_awake.mono _
      | exact safe_Header.mono _ _ _
      | exact LeO.none _
      | refine LeO.ite ?_ ?_
      | refine LeO.bind ?_ (fun _ => ?_)
set_option maxHeartbeats 8000000 in
set_option maxRecDepth 100000 in
theorem lockkeeperlaw7_SafeTypes.calls (k : Nat) (a0 : Int) (a1 : Int) (a2 : ByteArray) (r : Bool) (w : World) (h : lockkeeperlaw7_SafeTypes.f k a0 a1 a2 = some r) :
    Calls Try.prog 8 #[.int .i64 a0, .int .u64 a1, .string a2] w fun e w' => e = .returned (.bool r) ∧ Below w.heap.size w w' := by
  have hu26 := Try.underlying26
  have HB := Aside0.mk (Below.refl w.heap.size w)
  have H : ((lockkeeperlaw0_Long.f k 60 (([a2] : List ByteArray))).bind fun t722 => (if t722 = true then ((lockkeeperlaw7_awake.f k).bind fun t723 => (some t723)) else ((lockkeeperlaw0_Low.f a0 6).bind fun t724 => (if 0 ≤ t724 then (if t724 < 6 then ((lockkeeperlaw0_Low.f a0 6).bind fun t725 => (lockkeeperlaw7_SafeTypes.l0 k a1 a2 (rdOf ByteArray.empty ([(⟨#[97, 112, 112, 108, 105, 99, 97, 116, 105, 111, 110, 47, 120, 45, 119, 119, 119, 45, 102, 111, 114, 109, 45, 117, 114, 108, 101, 110, 99, 111, 100, 101, 100]⟩ : ByteArray), (⟨#[109, 117, 108, 116, 105, 112, 97, 114, 116, 47, 102, 111, 114, 109, 45, 100, 97, 116, 97]⟩ : ByteArray), (⟨#[116, 101, 120, 116, 47, 112, 108, 97, 105, 110]⟩ : ByteArray), (⟨#[116, 101, 120, 116, 47, 104, 116, 109, 108]⟩ : ByteArray), (⟨#[116, 101, 120, 116]⟩ : ByteArray), (⟨#[116, 101, 120, 116, 47, 112, 108, 97, 105, 110, 47, 120]⟩ : ByteArray)] : List ByteArray) t724) (decide (t725 < 3)) 0)) else (none)) else (none))))) = some r := h
  clear h
  obtain ⟨y719, hy719⟩ : ∃ y_ : List ByteArray, y_ = (([a2] : List ByteArray)) := ⟨_, rfl⟩
  replace H : ((lockkeeperlaw0_Long.f k 60 y719).bind fun t722 => (if t722 = true then ((lockkeeperlaw7_awake.f k).bind fun t723 => (some t723)) else ((lockkeeperlaw0_Low.f a0 6).bind fun t724 => (if 0 ≤ t724 then (if t724 < 6 then ((lockkeeperlaw0_Low.f a0 6).bind fun t725 => (lockkeeperlaw7_SafeTypes.l0 k a1 a2 (rdOf ByteArray.empty ([(⟨#[97, 112, 112, 108, 105, 99, 97, 116, 105, 111, 110, 47, 120, 45, 119, 119, 119, 45, 102, 111, 114, 109, 45, 117, 114, 108, 101, 110, 99, 111, 100, 101, 100]⟩ : ByteArray), (⟨#[109, 117, 108, 116, 105, 112, 97, 114, 116, 47, 102, 111, 114, 109, 45, 100, 97, 116, 97]⟩ : ByteArray), (⟨#[116, 101, 120, 116, 47, 112, 108, 97, 105, 110]⟩ : ByteArray), (⟨#[116, 101, 120, 116, 47, 104, 116, 109, 108]⟩ : ByteArray), (⟨#[116, 101, 120, 116]⟩ : ByteArray), (⟨#[116, 101, 120, 116, 47, 112, 108, 97, 105, 110, 47, 120]⟩ : ByteArray)] : List ByteArray) t724) (decide (t725 < 3)) 0)) else (none)) else (none))))) = some r := by first | (rw [hy719]; with_reducible exact H) | (have H2_ := (Option.bind_some _ _).symm.trans H; rw [hy719]; with_reducible exact H2_) | (have H2_ := (Option.bind_some _ _).symm.trans H; with_reducible exact H2_) | with_reducible exact H | (rw [hy719]; exact H) | exact H
  have Ny719 := Aside0.mk hy719
  clear hy719
  replace H := Option.bind_eq_some_iff.mp H
  obtain ⟨t722, A40, H⟩ := H
  replace H : (if t722 = true then ((lockkeeperlaw7_awake.f k).bind fun t723 => (some t723)) else ((lockkeeperlaw0_Low.f a0 6).bind fun t724 => (if 0 ≤ t724 then (if t724 < 6 then ((lockkeeperlaw0_Low.f a0 6).bind fun t725 => (lockkeeperlaw7_SafeTypes.l0 k a1 a2 (rdOf ByteArray.empty ([(⟨#[97, 112, 112, 108, 105, 99, 97, 116, 105, 111, 110, 47, 120, 45, 119, 119, 119, 45, 102, 111, 114, 109, 45, 117, 114, 108, 101, 110, 99, 111, 100, 101, 100]⟩ : ByteArray), (⟨#[109, 117, 108, 116, 105, 112, 97, 114, 116, 47, 102, 111, 114, 109, 45, 100, 97, 116, 97]⟩ : ByteArray), (⟨#[116, 101, 120, 116, 47, 112, 108, 97, 105, 110]⟩ : ByteArray), (⟨#[116, 101, 120, 116, 47, 104, 116, 109, 108]⟩ : ByteArray), (⟨#[116, 101, 120, 116]⟩ : ByteArray), (⟨#[116, 101, 120, 116, 47, 112, 108, 97, 105, 110, 47, 120]⟩ : ByteArray)] : List ByteArray) t724) (decide (t725 < 3)) 0)) else (none)) else (none)))) = some r := H
  have A4 := Aside0.mk A40
  clear A40
  by_cases c5 : t722 = true
  · subst c5
    have H1 : ((lockkeeperlaw7_awake.f k).bind fun t723 => (some t723)) = some r := by rw [if_pos rfl] at H; exact H
    clear H
    have H := H1
    clear H1
    replace H := Option.bind_eq_some_iff.mp H
    obtain ⟨t723, A60, H⟩ := H
    replace H : (some t723) = some r := H
    have A6 := Aside0.mk A60
    clear A60
    obtain rfl := Option.some.inj H
    go_enter Try.func8, Try.ntmps8
    go_wp2_with (first | ((with_reducible refine gate_dst (N := 12) rfl ?_); refine Kd.R_lit Kd.string _ 9 ?hg (N := 12) ?hd (xs := ([a2] : List ByteArray)) (inner := [.string a2]) (ok := fun _ => True) (okp := fun _ => True) ?hr ?hp (fun _ hk => hk) trivial (Below.refl _ _) (Nat.le_refl _) (by simp) ?_; (case hd => rfl); (case hg => rfl); (case hr => first | (go_simp; done) | (go_simp; rfl)); (case hp => exact (Reps.one (show Kd.M Kd.string _ _ _ a2 [.string a2] from rfl) (Reps.none _ _))); intro v720 w7 ho8 hb hg_ hnew_; clear hg_ hnew_; (first | rw [← Ny719.out] at ho8 | (simp only [Int.reduceToNat] at ho8; rw [← Ny719.out] at ho8)); have n0_ := Aside0.mk (Kd.R_lower ho8 (below_size (by repeat (first | (with_reducible first | exact HB.out | apply below_alloc | apply pw_below_drewN | apply below_drew1) | exact HB.out)))); have n1_ := Aside0.mk (below_step (by repeat (first | (with_reducible first | exact HB.out | apply below_alloc | apply pw_below_drewN | apply below_drew1) | exact HB.out)) hb); clear HB; have HO721 := n0_; have HB := n1_; clear n0_ n1_; clear hb ho8; obtain ⟨Ao9, co9, eo9⟩ := Kd.R_slice HO721.out; subst eo9) | ((with_reducible refine gate_callee (f := 17) rfl ?_); refine goesL_ (some 13) rfl rfl Try.func17 (by kernel_rfl) rfl #[.int .i64 60, .slice Ao9 y719.length co9] rfl (by (try simp only [List.map_toArray, List.map_cons, List.map_nil]); first | done | rfl | (simp only [List.length_drop, List.length_take]; rfl)) ?_; (with_reducible refine (lockkeeperlaw0_Long.calls k 60 _ _ y719 true _ ?side1 ?side2 A4.out).mono ?_); (case side1 => repeat (first | exact (Kd.R_reads' HO721.out).2.2 | (with_reducible refine Kd.C_alloc ?_ _) | (with_reducible refine Kd.C_drewN ?_ _) | (with_reducible refine Kd.C_drew ?_))); (case side2 => exact (Kd.R_reads' HO721.out).2.1); rintro e w' ⟨rfl, ⟨nd, rfl⟩⟩; refine ⟨_, rfl, ?_⟩) | ((with_reducible refine gate_callee (f := 32) rfl ?_); refine goesL_ (some 14) rfl rfl Try.func32 (by kernel_rfl) rfl #[] rfl (by (try simp only [List.map_toArray, List.map_cons, List.map_nil]); first | done | rfl | (simp only [List.length_drop, List.length_take]; rfl)) ?_; (with_reducible refine (lockkeeperlaw7_awake.calls k  t723 _ A6.out).mono ?_); rintro e w10 ⟨rfl, hb⟩; refine ⟨_, rfl, ?_⟩; have n0_ := Aside0.mk (Kd.R_below (by (with_reducible repeat (first | apply Kd.R_alloc | apply Kd.R_drewN | apply Kd.R_drew)); exact HO721.out) hb); have n1_ := Aside0.mk (below_step (by repeat (first | (with_reducible first | exact HB.out | apply below_alloc | apply pw_below_drewN | apply below_drew1) | exact HB.out)) hb); clear HO721; clear HB; have HO721 := n0_; have HB := n1_; clear n0_ n1_; (try clear hb); (try clear hb2); (try clear hk); (try clear hi)))
    go_ret
    exact ⟨by first | rfl | (simp [errW_none, errW_some] <;> rfl) | (simp [*, errW_none, errW_some] <;> rfl), by repeat (first | (with_reducible first | exact HB.out | apply below_alloc | apply pw_below_drewN | apply below_drew1) | exact HB.out)⟩
  · replace c5 := Bool.eq_false_iff.mpr c5
    subst c5
    have H1 : ((lockkeeperlaw0_Low.f a0 6).bind fun t724 => (if 0 ≤ t724 then (if t724 < 6 then ((lockkeeperlaw0_Low.f a0 6).bind fun t725 => (lockkeeperlaw7_SafeTypes.l0 k a1 a2 (rdOf ByteArray.empty ([(⟨#[97, 112, 112, 108, 105, 99, 97, 116, 105, 111, 110, 47, 120, 45, 119, 119, 119, 45, 102, 111, 114, 109, 45, 117, 114, 108, 101, 110, 99, 111, 100, 101, 100]⟩ : ByteArray), (⟨#[109, 117, 108, 116, 105, 112, 97, 114, 116, 47, 102, 111, 114, 109, 45, 100, 97, 116, 97]⟩ : ByteArray), (⟨#[116, 101, 120, 116, 47, 112, 108, 97, 105, 110]⟩ : ByteArray), (⟨#[116, 101, 120, 116, 47, 104, 116, 109, 108]⟩ : ByteArray), (⟨#[116, 101, 120, 116]⟩ : ByteArray), (⟨#[116, 101, 120, 116, 47, 112, 108, 97, 105, 110, 47, 120]⟩ : ByteArray)] : List ByteArray) t724) (decide (t725 < 3)) 0)) else (none)) else (none))) = some r := by rw [if_neg (show ¬ (false = true) by decide)] at H; exact H
    clear H
    have H := H1
    clear H1
    replace H := Option.bind_eq_some_iff.mp H
    obtain ⟨t724, A110, H⟩ := H
    replace H : (if 0 ≤ t724 then (if t724 < 6 then ((lockkeeperlaw0_Low.f a0 6).bind fun t725 => (lockkeeperlaw7_SafeTypes.l0 k a1 a2 (rdOf ByteArray.empty ([(⟨#[97, 112, 112, 108, 105, 99, 97, 116, 105, 111, 110, 47, 120, 45, 119, 119, 119, 45, 102, 111, 114, 109, 45, 117, 114, 108, 101, 110, 99, 111, 100, 101, 100]⟩ : ByteArray), (⟨#[109, 117, 108, 116, 105, 112, 97, 114, 116, 47, 102, 111, 114, 109, 45, 100, 97, 116, 97]⟩ : ByteArray), (⟨#[116, 101, 120, 116, 47, 112, 108, 97, 105, 110]⟩ : ByteArray), (⟨#[116, 101, 120, 116, 47, 104, 116, 109, 108]⟩ : ByteArray), (⟨#[116, 101, 120, 116]⟩ : ByteArray), (⟨#[116, 101, 120, 116, 47, 112, 108, 97, 105, 110, 47, 120]⟩ : ByteArray)] : List ByteArray) t724) (decide (t725 < 3)) 0)) else (none)) else (none)) = some r := H
    have A11 := Aside0.mk A110
    clear A110
    by_cases c12 : 0 ≤ t724
    · rw [if_pos c12] at H
      have c12b0 : decide (0 ≤ t724) = true := decide_eq_true c12
      clear c12
      by_cases c13 : t724 < 6
      · rw [if_pos c13] at H
        have c13b0 : decide (t724 < 6) = true := decide_eq_true c13
        clear c13
        replace H := Option.bind_eq_some_iff.mp H
        obtain ⟨t725, A150, H⟩ := H
        replace H : (lockkeeperlaw7_SafeTypes.l0 k a1 a2 (rdOf ByteArray.empty ([(⟨#[97, 112, 112, 108, 105, 99, 97, 116, 105, 111, 110, 47, 120, 45, 119, 119, 119, 45, 102, 111, 114, 109, 45, 117, 114, 108, 101, 110, 99, 111, 100, 101, 100]⟩ : ByteArray), (⟨#[109, 117, 108, 116, 105, 112, 97, 114, 116, 47, 102, 111, 114, 109, 45, 100, 97, 116, 97]⟩ : ByteArray), (⟨#[116, 101, 120, 116, 47, 112, 108, 97, 105, 110]⟩ : ByteArray), (⟨#[116, 101, 120, 116, 47, 104, 116, 109, 108]⟩ : ByteArray), (⟨#[116, 101, 120, 116]⟩ : ByteArray), (⟨#[116, 101, 120, 116, 47, 112, 108, 97, 105, 110, 47, 120]⟩ : ByteArray)] : List ByteArray) t724) (decide (t725 < 3)) 0) = some r := H
        have A15 := Aside0.mk A150
        clear A150
        have H' := Aside0.mk H
        clear H
        go_enter Try.func8, Try.ntmps8
        go_wp2_with (first | ((with_reducible refine gate_dst (N := 12) rfl ?_); refine Kd.R_lit Kd.string _ 9 ?hg (N := 12) ?hd (xs := ([a2] : List ByteArray)) (inner := [.string a2]) (ok := fun _ => True) (okp := fun _ => True) ?hr ?hp (fun _ hk => hk) trivial (Below.refl _ _) (Nat.le_refl _) (by simp) ?_; (case hd => rfl); (case hg => rfl); (case hr => first | (go_simp; done) | (go_simp; rfl)); (case hp => exact (Reps.one (show Kd.M Kd.string _ _ _ a2 [.string a2] from rfl) (Reps.none _ _))); intro v720 w16 ho17 hb hg_ hnew_; clear hg_ hnew_; (first | rw [← Ny719.out] at ho17 | (simp only [Int.reduceToNat] at ho17; rw [← Ny719.out] at ho17)); have n0_ := Aside0.mk (Kd.R_lower ho17 (below_size (by repeat (first | (with_reducible first | exact HB.out | apply below_alloc | apply pw_below_drewN | apply below_drew1) | exact HB.out)))); have n1_ := Aside0.mk (below_step (by repeat (first | (with_reducible first | exact HB.out | apply below_alloc | apply pw_below_drewN | apply below_drew1) | exact HB.out)) hb); clear HB; have HO721 := n0_; have HB := n1_; clear n0_ n1_; clear hb ho17; obtain ⟨Ao18, co18, eo18⟩ := Kd.R_slice HO721.out; subst eo18) | ((with_reducible refine gate_callee (f := 17) rfl ?_); refine goesL_ (some 13) rfl rfl Try.func17 (by kernel_rfl) rfl #[.int .i64 60, .slice Ao18 y719.length co18] rfl (by (try simp only [List.map_toArray, List.map_cons, List.map_nil]); first | done | rfl | (simp only [List.length_drop, List.length_take]; rfl)) ?_; (with_reducible refine (lockkeeperlaw0_Long.calls k 60 _ _ y719 false _ ?side1 ?side2 A4.out).mono ?_); (case side1 => repeat (first | exact (Kd.R_reads' HO721.out).2.2 | (with_reducible refine Kd.C_alloc ?_ _) | (with_reducible refine Kd.C_drewN ?_ _) | (with_reducible refine Kd.C_drew ?_))); (case side2 => exact (Kd.R_reads' HO721.out).2.1); rintro e w' ⟨rfl, ⟨nd, rfl⟩⟩; refine ⟨_, rfl, ?_⟩) | ((with_reducible refine gate_callee (f := 23) rfl ?_); refine goesL_ (some 17) rfl rfl Try.func23 (by kernel_rfl) rfl #[.int .i64 a0, .int .i64 6] rfl (by (try simp only [List.map_toArray, List.map_cons, List.map_nil]); first | done | rfl | (simp only [List.length_drop, List.length_take]; rfl)) ?_; (with_reducible refine (lockkeeperlaw0_Low.calls a0 6 t724 _ A11.out).mono ?_); rintro e w' ⟨rfl, ⟨nd, rfl⟩⟩; refine ⟨_, rfl, ?_⟩; have hx14 := XA.arr_at (P := Try.prog) (t := 47) (e := 9) 6 ([(⟨#[97, 112, 112, 108, 105, 99, 97, 116, 105, 111, 110, 47, 120, 45, 119, 119, 119, 45, 102, 111, 114, 109, 45, 117, 114, 108, 101, 110, 99, 111, 100, 101, 100]⟩ : ByteArray), (⟨#[109, 117, 108, 116, 105, 112, 97, 114, 116, 47, 102, 111, 114, 109, 45, 100, 97, 116, 97]⟩ : ByteArray), (⟨#[116, 101, 120, 116, 47, 112, 108, 97, 105, 110]⟩ : ByteArray), (⟨#[116, 101, 120, 116, 47, 104, 116, 109, 108]⟩ : ByteArray), (⟨#[116, 101, 120, 116]⟩ : ByteArray), (⟨#[116, 101, 120, 116, 47, 112, 108, 97, 105, 110, 47, 120]⟩ : ByteArray)] : List ByteArray) Try.underlying47 Try.underlying9 (by kernel_rfl) rfl #[Value.string (⟨#[97, 112, 112, 108, 105, 99, 97, 116, 105, 111, 110, 47, 120, 45, 119, 119, 119, 45, 102, 111, 114, 109, 45, 117, 114, 108, 101, 110, 99, 111, 100, 101, 100]⟩ : ByteArray), Value.string (⟨#[109, 117, 108, 116, 105, 112, 97, 114, 116, 47, 102, 111, 114, 109, 45, 100, 97, 116, 97]⟩ : ByteArray), Value.string (⟨#[116, 101, 120, 116, 47, 112, 108, 97, 105, 110]⟩ : ByteArray), Value.string (⟨#[116, 101, 120, 116, 47, 104, 116, 109, 108]⟩ : ByteArray), Value.string (⟨#[116, 101, 120, 116]⟩ : ByteArray), Value.string (⟨#[116, 101, 120, 116, 47, 112, 108, 97, 105, 110, 47, 120]⟩ : ByteArray)] rfl (t724 : Int) (of_decide_eq_true (by first | (with_reducible assumption) | assumption)) (of_decide_eq_true (by first | (with_reducible assumption) | assumption))) | ((with_reducible refine gate_callee (f := 23) rfl ?_); refine goesL_ (some 20) rfl rfl Try.func23 (by kernel_rfl) rfl #[.int .i64 a0, .int .i64 6] rfl (by (try simp only [List.map_toArray, List.map_cons, List.map_nil]); first | done | rfl | (simp only [List.length_drop, List.length_take]; rfl)) ?_; (with_reducible refine (lockkeeperlaw0_Low.calls a0 6 t725 _ A15.out).mono ?_); rintro e w' ⟨rfl, ⟨nd, rfl⟩⟩; refine ⟨_, rfl, ?_⟩))
        go_loopg [8, 9] k (fun kq v8 v9 w' => ∃ (x8_1 : Bool) (x9_1 : Int), v8 = .bool x8_1 ∧ v9 = .int .i64 x9_1 ∧ Aside0 (lockkeeperlaw7_SafeTypes.l0 kq a1 a2 (rdOf ByteArray.empty ([(⟨#[97, 112, 112, 108, 105, 99, 97, 116, 105, 111, 110, 47, 120, 45, 119, 119, 119, 45, 102, 111, 114, 109, 45, 117, 114, 108, 101, 110, 99, 111, 100, 101, 100]⟩ : ByteArray), (⟨#[109, 117, 108, 116, 105, 112, 97, 114, 116, 47, 102, 111, 114, 109, 45, 100, 97, 116, 97]⟩ : ByteArray), (⟨#[116, 101, 120, 116, 47, 112, 108, 97, 105, 110]⟩ : ByteArray), (⟨#[116, 101, 120, 116, 47, 104, 116, 109, 108]⟩ : ByteArray), (⟨#[116, 101, 120, 116]⟩ : ByteArray), (⟨#[116, 101, 120, 116, 47, 112, 108, 97, 105, 110, 47, 120]⟩ : ByteArray)] : List ByteArray) t724) x8_1 x9_1 = some r) ∧ Aside0 (kq ≤ k) ∧ Aside0 (Below w.heap.size w w'))
        case atStart => exact ⟨(decide (t725 < 3)), (0), (by first | rfl | (simp; done) | (simp [*]; done)), (by first | rfl | (simp; done) | (simp [*]; done)), H', ⟨Nat.le_refl _⟩, ⟨by repeat (first | (with_reducible first | exact HB.out | apply below_alloc | apply pw_below_drewN | apply below_drew1) | exact HB.out)⟩⟩
        case round =>
          clear H'
          try clear c1
          try clear hx1
          try clear c2
          try clear p2
          try clear c3
          try clear c5
          try clear c8
          try clear c12
          try clear c12b0
          try clear c13
          try clear c13b0
          try clear hx14
          try clear c17
          obtain ⟨x8_1, x9_1, rfl, rfl, HA, HK1, HB⟩ := hrel
          cases gk with
          | zero => exact absurd HA.out (by simp [lockkeeperlaw7_SafeTypes.l0])
          | succ k1 =>
            have H := HA.out
            clear HA
            simp only [lockkeeperlaw7_SafeTypes.l0] at H
            by_cases c19 : x9_1 < (a2.size : Int)
            · rw [if_pos c19] at H
              have c19b0 : decide (x9_1 < (a2.size : Int)) = true := decide_eq_true c19
              clear c19
              by_cases c20 : x8_1 = true
              · subst c20
                have H1 : (if 0 ≤ x9_1 then ((safe_Byte.f (bt a2 x9_1)).bind fun t726 => (lockkeeperlaw7_SafeTypes.l0 k1 a1 a2 (rdOf ByteArray.empty ([(⟨#[97, 112, 112, 108, 105, 99, 97, 116, 105, 111, 110, 47, 120, 45, 119, 119, 119, 45, 102, 111, 114, 109, 45, 117, 114, 108, 101, 110, 99, 111, 100, 101, 100]⟩ : ByteArray), (⟨#[109, 117, 108, 116, 105, 112, 97, 114, 116, 47, 102, 111, 114, 109, 45, 100, 97, 116, 97]⟩ : ByteArray), (⟨#[116, 101, 120, 116, 47, 112, 108, 97, 105, 110]⟩ : ByteArray), (⟨#[116, 101, 120, 116, 47, 104, 116, 109, 108]⟩ : ByteArray), (⟨#[116, 101, 120, 116]⟩ : ByteArray), (⟨#[116, 101, 120, 116, 47, 112, 108, 97, 105, 110, 47, 120]⟩ : ByteArray)] : List ByteArray) t724) t726 (wrap64 (x9_1 + 1)))) else (none)) = some r := by rw [if_pos rfl] at H; exact H
                clear H
                have H := H1
                clear H1
                by_cases c21 : 0 ≤ x9_1
                · rw [if_pos c21] at H
                  have c21b0 : decide (0 ≤ x9_1) = true := decide_eq_true c21
                  clear c21
                  replace H := Option.bind_eq_some_iff.mp H
                  obtain ⟨t726, A230, H⟩ := H
                  replace H : (lockkeeperlaw7_SafeTypes.l0 k1 a1 a2 (rdOf ByteArray.empty ([(⟨#[97, 112, 112, 108, 105, 99, 97, 116, 105, 111, 110, 47, 120, 45, 119, 119, 119, 45, 102, 111, 114, 109, 45, 117, 114, 108, 101, 110, 99, 111, 100, 101, 100]⟩ : ByteArray), (⟨#[109, 117, 108, 116, 105, 112, 97, 114, 116, 47, 102, 111, 114, 109, 45, 100, 97, 116, 97]⟩ : ByteArray), (⟨#[116, 101, 120, 116, 47, 112, 108, 97, 105, 110]⟩ : ByteArray), (⟨#[116, 101, 120, 116, 47, 104, 116, 109, 108]⟩ : ByteArray), (⟨#[116, 101, 120, 116]⟩ : ByteArray), (⟨#[116, 101, 120, 116, 47, 112, 108, 97, 105, 110, 47, 120]⟩ : ByteArray)] : List ByteArray) t724) t726 (wrap64 (x9_1 + 1))) = some r := H
                  have A23 := Aside0.mk A230
                  clear A230
                  have H' := Aside0.mk H
                  clear H
                  have p22 : 0 ≤ (x9_1 : Int) := of_decide_eq_true (by first | (with_reducible assumption) | assumption)
                  have q22 : x9_1 < (a2.size : Int) := of_decide_eq_true (by first | (with_reducible assumption) | assumption)
                  have hx22 := bt_at a2 x9_1
                  replace p22 := eq_true p22
                  replace q22 := eq_true q22
                  go_wp2_with (first | (go_at_call 33; (with_reducible refine (safe_Byte.calls (bt a2 x9_1) t726 _ A23.out).mono ?_); rintro e w' ⟨rfl, ⟨nd, rfl⟩⟩))
                  go_roundg k1
                  case measure => have := HK1.out; omega
                  case rel => exact ⟨(t726), (wrap64 (x9_1 + 1)), (by first | rfl | (simp; done) | (simp [*]; done)), (by first | rfl | (simp; done) | (simp [*]; done)), H', ⟨by have := HK1.out; omega⟩, ⟨by repeat (first | (with_reducible first | exact HB.out | apply below_alloc | apply pw_below_drewN | apply below_drew1) | exact HB.out)⟩⟩
                · rw [if_neg c21] at H
                  exact absurd H (by simp)
              · replace c20 := Bool.eq_false_iff.mpr c20
                subst c20
                have H1 : (lockkeeperlaw7_SafeTypes.l0 k1 a1 a2 (rdOf ByteArray.empty ([(⟨#[97, 112, 112, 108, 105, 99, 97, 116, 105, 111, 110, 47, 120, 45, 119, 119, 119, 45, 102, 111, 114, 109, 45, 117, 114, 108, 101, 110, 99, 111, 100, 101, 100]⟩ : ByteArray), (⟨#[109, 117, 108, 116, 105, 112, 97, 114, 116, 47, 102, 111, 114, 109, 45, 100, 97, 116, 97]⟩ : ByteArray), (⟨#[116, 101, 120, 116, 47, 112, 108, 97, 105, 110]⟩ : ByteArray), (⟨#[116, 101, 120, 116, 47, 104, 116, 109, 108]⟩ : ByteArray), (⟨#[116, 101, 120, 116]⟩ : ByteArray), (⟨#[116, 101, 120, 116, 47, 112, 108, 97, 105, 110, 47, 120]⟩ : ByteArray)] : List ByteArray) t724) false (wrap64 (x9_1 + 1))) = some r := by rw [if_neg (show ¬ (false = true) by decide)] at H; exact H
                clear H
                have H := H1
                clear H1
                have H' := Aside0.mk H
                clear H
                go_wp2
                go_roundg k1
                case measure => have := HK1.out; omega
                case rel => exact ⟨(false), (wrap64 (x9_1 + 1)), (by first | rfl | (simp; done) | (simp [*]; done)), (by first | rfl | (simp; done) | (simp [*]; done)), H', ⟨by have := HK1.out; omega⟩, ⟨by repeat (first | (with_reducible first | exact HB.out | apply below_alloc | apply pw_below_drewN | apply below_drew1) | exact HB.out)⟩⟩
            · rw [if_neg c19] at H
              have c19b0 : decide (x9_1 < (a2.size : Int)) = false := decide_eq_false c19
              clear c19
              replace H := Option.bind_eq_some_iff.mp H
              obtain ⟨t727, A240, H⟩ := H
              replace H : (if t727.size + 2 ≤ 9223372036854775807 then (if (t727 ++ (⟨#[32, 59]⟩ : ByteArray)).size + a2.size ≤ 9223372036854775807 then (if ((t727 ++ (⟨#[32, 59]⟩ : ByteArray)) ++ a2).size + 1 ≤ 9223372036854775807 then ((safe_Header.f k1 (⟨#[67, 111, 110, 116, 101, 110, 116, 45, 84, 121, 112, 101]⟩ : ByteArray) (((t727 ++ (⟨#[32, 59]⟩ : ByteArray)) ++ a2) ++ (⟨#[59]⟩ : ByteArray))).bind fun t728 => (if (t728 == x8_1) = true then ((lockkeeperlaw7_awake.f k1).bind fun t729 => (some t729)) else (some false))) else (none)) else (none)) else (none)) = some r := H
              have A24 := Aside0.mk A240
              clear A240
              by_cases c25 : t727.size + 2 ≤ 9223372036854775807
              · rw [if_pos c25] at H
                have c25b0 := eq_true c25
                have c25b1 : decide (t727.size + 2 ≤ 9223372036854775807) = true := decide_eq_true c25
                try have c25b2 : (9223372036854775807 < t727.size + 2) = False := eq_false (Nat.not_lt.2 c25)
                by_cases c26 : (t727 ++ (⟨#[32, 59]⟩ : ByteArray)).size + a2.size ≤ 9223372036854775807
                · rw [if_pos c26] at H
                  have c26b0 := eq_true c26
                  have c26b1 : decide ((t727 ++ (⟨#[32, 59]⟩ : ByteArray)).size + a2.size ≤ 9223372036854775807) = true := decide_eq_true c26
                  try have c26b2 : (9223372036854775807 < (t727 ++ (⟨#[32, 59]⟩ : ByteArray)).size + a2.size) = False := eq_false (Nat.not_lt.2 c26)
                  try have c26b3 : (9223372036854775807 < t727.size + 2 + a2.size) = False := eq_false (Nat.not_lt.2 (by have z_ := c26; simp only [ByteArray.size_append] at z_; first | exact z_ | simpa using z_))
                  by_cases c27 : ((t727 ++ (⟨#[32, 59]⟩ : ByteArray)) ++ a2).size + 1 ≤ 9223372036854775807
                  · rw [if_pos c27] at H
                    have c27b0 := eq_true c27
                    have c27b1 : decide (((t727 ++ (⟨#[32, 59]⟩ : ByteArray)) ++ a2).size + 1 ≤ 9223372036854775807) = true := decide_eq_true c27
                    try have c27b2 : (9223372036854775807 < ((t727 ++ (⟨#[32, 59]⟩ : ByteArray)) ++ a2).size + 1) = False := eq_false (Nat.not_lt.2 c27)
                    try have c27b3 : (9223372036854775807 < t727.size + 2 + a2.size + 1) = False := eq_false (Nat.not_lt.2 (by have z_ := c27; simp only [ByteArray.size_append] at z_; first | exact z_ | simpa using z_))
                    replace H := Option.bind_eq_some_iff.mp H
                    obtain ⟨t728, A280, H⟩ := H
                    replace H : (if (t728 == x8_1) = true then ((lockkeeperlaw7_awake.f k1).bind fun t729 => (some t729)) else (some false)) = some r := H
                    have A28 := Aside0.mk A280
                    clear A280
                    by_cases c29 : (t728 == x8_1) = true
                    · rw [if_pos c29] at H
                      have c29b0 : (t728 == x8_1) = true := c29
                      (try (have c29b1 : decide (t728 = x8_1) = true := by simpa using c29))
                      (try (have c29b2 : (t728 == x8_1) = true := by simpa using c29))
                      clear c29
                      replace H := Option.bind_eq_some_iff.mp H
                      obtain ⟨t729, A300, H⟩ := H
                      replace H : (some t729) = some r := H
                      have A30 := Aside0.mk A300
                      clear A300
                      obtain rfl := Option.some.inj H
                      go_wp2_with (first | ((with_reducible refine gate_callee (f := 34) rfl ?_); refine goesL_ (some 37) rfl rfl Try.func34 (by kernel_rfl) rfl #[.string (rdOf ByteArray.empty ([(⟨#[97, 112, 112, 108, 105, 99, 97, 116, 105, 111, 110, 47, 120, 45, 119, 119, 119, 45, 102, 111, 114, 109, 45, 117, 114, 108, 101, 110, 99, 111, 100, 101, 100]⟩ : ByteArray), (⟨#[109, 117, 108, 116, 105, 112, 97, 114, 116, 47, 102, 111, 114, 109, 45, 100, 97, 116, 97]⟩ : ByteArray), (⟨#[116, 101, 120, 116, 47, 112, 108, 97, 105, 110]⟩ : ByteArray), (⟨#[116, 101, 120, 116, 47, 104, 116, 109, 108]⟩ : ByteArray), (⟨#[116, 101, 120, 116]⟩ : ByteArray), (⟨#[116, 101, 120, 116, 47, 112, 108, 97, 105, 110, 47, 120]⟩ : ByteArray)] : List ByteArray) t724), .int .u64 a1] rfl (by (try simp only [List.map_toArray, List.map_cons, List.map_nil]); first | done | rfl | (simp only [List.length_drop, List.length_take]; rfl)) ?_; (with_reducible refine (lockkeeperlaw0_Flip.calls (rdOf ByteArray.empty ([(⟨#[97, 112, 112, 108, 105, 99, 97, 116, 105, 111, 110, 47, 120, 45, 119, 119, 119, 45, 102, 111, 114, 109, 45, 117, 114, 108, 101, 110, 99, 111, 100, 101, 100]⟩ : ByteArray), (⟨#[109, 117, 108, 116, 105, 112, 97, 114, 116, 47, 102, 111, 114, 109, 45, 100, 97, 116, 97]⟩ : ByteArray), (⟨#[116, 101, 120, 116, 47, 112, 108, 97, 105, 110]⟩ : ByteArray), (⟨#[116, 101, 120, 116, 47, 104, 116, 109, 108]⟩ : ByteArray), (⟨#[116, 101, 120, 116]⟩ : ByteArray), (⟨#[116, 101, 120, 116, 47, 112, 108, 97, 105, 110, 47, 120]⟩ : ByteArray)] : List ByteArray) t724) a1 t727 _ A24.out).mono ?_); rintro e w31 ⟨rfl, hb⟩; refine ⟨_, rfl, ?_⟩; have n0_ := Aside0.mk (below_step (by repeat (first | (with_reducible first | exact HB.out | apply below_alloc | apply pw_below_drewN | apply below_drew1) | exact HB.out)) hb); clear HB; have HB := n0_; clear n0_; (try clear hb); (try clear hb2); (try clear hk); (try clear hi)) | ((with_reducible refine gate_callee (f := 31) rfl ?_); refine goesL_ (some 44) rfl rfl Try.func31 (by kernel_rfl) rfl #[.agg #[.string (⟨#[67, 111, 110, 116, 101, 110, 116, 45, 84, 121, 112, 101]⟩ : ByteArray), .string (((t727 ++ (⟨#[32, 59]⟩ : ByteArray)) ++ a2) ++ (⟨#[59]⟩ : ByteArray))]] rfl (by (try simp only [List.map_toArray, List.map_cons, List.map_nil]); first | done | rfl | (simp only [List.length_drop, List.length_take]; rfl)) ?_; (with_reducible refine (safe_Header.calls k1 (⟨#[67, 111, 110, 116, 101, 110, 116, 45, 84, 121, 112, 101]⟩ : ByteArray) (((t727 ++ (⟨#[32, 59]⟩ : ByteArray)) ++ a2) ++ (⟨#[59]⟩ : ByteArray)) t728 _ A28.out).mono ?_); rintro e w32 ⟨rfl, hb⟩; refine ⟨_, rfl, ?_⟩; have n0_ := Aside0.mk (below_step (by repeat (first | (with_reducible first | exact HB.out | apply below_alloc | apply pw_below_drewN | apply below_drew1) | exact HB.out)) hb); clear HB; have HB := n0_; clear n0_; (try clear hb); (try clear hb2); (try clear hk); (try clear hi)) | (go_at_call 32; (with_reducible refine (lockkeeperlaw7_awake.calls k1  t729 _ A30.out).mono ?_); rintro e w33 ⟨rfl, hb⟩; have n0_ := Aside0.mk (below_step (by repeat (first | (with_reducible first | exact HB.out | apply below_alloc | apply pw_below_drewN | apply below_drew1) | exact HB.out)) hb); clear HB; have HB := n0_; clear n0_; (try clear hb); (try clear hb2); (try clear hk); (try clear hi)))
                      go_ret
                      exact ⟨by first | rfl | (simp [errW_none, errW_some] <;> rfl) | (simp [*, errW_none, errW_some] <;> rfl), by repeat (first | (with_reducible first | exact HB.out | apply below_alloc | apply pw_below_drewN | apply below_drew1) | exact HB.out)⟩
                    · rw [if_neg c29] at H
                      have c29b0 : (t728 == x8_1) = false := by simpa using c29
                      (try (have c29b1 : decide (t728 = x8_1) = false := by simpa using c29))
                      (try (have c29b2 : (t728 == x8_1) = false := by simpa using c29))
                      (try (have c29b3 : ¬ (t728 = x8_1) := by simpa using c29))
                      clear c29
                      obtain rfl := Option.some.inj H
                      go_wp2_with (first | ((with_reducible refine gate_callee (f := 34) rfl ?_); refine goesL_ (some 37) rfl rfl Try.func34 (by kernel_rfl) rfl #[.string (rdOf ByteArray.empty ([(⟨#[97, 112, 112, 108, 105, 99, 97, 116, 105, 111, 110, 47, 120, 45, 119, 119, 119, 45, 102, 111, 114, 109, 45, 117, 114, 108, 101, 110, 99, 111, 100, 101, 100]⟩ : ByteArray), (⟨#[109, 117, 108, 116, 105, 112, 97, 114, 116, 47, 102, 111, 114, 109, 45, 100, 97, 116, 97]⟩ : ByteArray), (⟨#[116, 101, 120, 116, 47, 112, 108, 97, 105, 110]⟩ : ByteArray), (⟨#[116, 101, 120, 116, 47, 104, 116, 109, 108]⟩ : ByteArray), (⟨#[116, 101, 120, 116]⟩ : ByteArray), (⟨#[116, 101, 120, 116, 47, 112, 108, 97, 105, 110, 47, 120]⟩ : ByteArray)] : List ByteArray) t724), .int .u64 a1] rfl (by (try simp only [List.map_toArray, List.map_cons, List.map_nil]); first | done | rfl | (simp only [List.length_drop, List.length_take]; rfl)) ?_; (with_reducible refine (lockkeeperlaw0_Flip.calls (rdOf ByteArray.empty ([(⟨#[97, 112, 112, 108, 105, 99, 97, 116, 105, 111, 110, 47, 120, 45, 119, 119, 119, 45, 102, 111, 114, 109, 45, 117, 114, 108, 101, 110, 99, 111, 100, 101, 100]⟩ : ByteArray), (⟨#[109, 117, 108, 116, 105, 112, 97, 114, 116, 47, 102, 111, 114, 109, 45, 100, 97, 116, 97]⟩ : ByteArray), (⟨#[116, 101, 120, 116, 47, 112, 108, 97, 105, 110]⟩ : ByteArray), (⟨#[116, 101, 120, 116, 47, 104, 116, 109, 108]⟩ : ByteArray), (⟨#[116, 101, 120, 116]⟩ : ByteArray), (⟨#[116, 101, 120, 116, 47, 112, 108, 97, 105, 110, 47, 120]⟩ : ByteArray)] : List ByteArray) t724) a1 t727 _ A24.out).mono ?_); rintro e w34 ⟨rfl, hb⟩; refine ⟨_, rfl, ?_⟩; have n0_ := Aside0.mk (below_step (by repeat (first | (with_reducible first | exact HB.out | apply below_alloc | apply pw_below_drewN | apply below_drew1) | exact HB.out)) hb); clear HB; have HB := n0_; clear n0_; (try clear hb); (try clear hb2); (try clear hk); (try clear hi)) | ((with_reducible refine gate_callee (f := 31) rfl ?_); refine goesL_ (some 44) rfl rfl Try.func31 (by kernel_rfl) rfl #[.agg #[.string (⟨#[67, 111, 110, 116, 101, 110, 116, 45, 84, 121, 112, 101]⟩ : ByteArray), .string (((t727 ++ (⟨#[32, 59]⟩ : ByteArray)) ++ a2) ++ (⟨#[59]⟩ : ByteArray))]] rfl (by (try simp only [List.map_toArray, List.map_cons, List.map_nil]); first | done | rfl | (simp only [List.length_drop, List.length_take]; rfl)) ?_; (with_reducible refine (safe_Header.calls k1 (⟨#[67, 111, 110, 116, 101, 110, 116, 45, 84, 121, 112, 101]⟩ : ByteArray) (((t727 ++ (⟨#[32, 59]⟩ : ByteArray)) ++ a2) ++ (⟨#[59]⟩ : ByteArray)) t728 _ A28.out).mono ?_); rintro e w35 ⟨rfl, hb⟩; refine ⟨_, rfl, ?_⟩; have n0_ := Aside0.mk (below_step (by repeat (first | (with_reducible first | exact HB.out | apply below_alloc | apply pw_below_drewN | apply below_drew1) | exact HB.out)) hb); clear HB; have HB := n0_; clear n0_; (try clear hb); (try clear hb2); (try clear hk); (try clear hi)))
                      go_ret
                      exact ⟨by first | rfl | (simp [errW_none, errW_some] <;> rfl) | (simp [*, errW_none, errW_some] <;> rfl), by repeat (first | (with_reducible first | exact HB.out | apply below_alloc | apply pw_below_drewN | apply below_drew1) | exact HB.out)⟩
                  · rw [if_neg c27] at H
                    exact absurd H (by simp)
                · rw [if_neg c26] at H
                  exact absurd H (by simp)
              · rw [if_neg c25] at H
                exact absurd H (by simp)
      · rw [if_neg c13] at H
        exact absurd H (by simp)
    · rw [if_neg c12] at H
      exact absurd H (by simp)

/-- THE ONE PURE STATEMENT of lockkeeperlaw7_SafeTypes: yours. -/
def lockkeeperlaw7_SafeTypes.Pure : Prop := ∀ (a0 : Int) (a1 : Int) (a2 : ByteArray), (Lit.int .i64 a0).wf = true → (Lit.int .u64 a1).wf = true → a2.size ≤ 140737488351232 → ∃ k, lockkeeperlaw7_SafeTypes.f k a0 a1 a2 = some true
theorem lockkeeperlaw7_SafeTypes.walk (P : lockkeeperlaw7_SafeTypes.Pure) (a0 : Int) (a1 : Int) (a2 : ByteArray) (w : World) (w0 : (Lit.int .i64 a0).wf = true) (w1 : (Lit.int .u64 a1).wf = true) (w2 : a2.size ≤ 140737488351232) :
    Calls Try.prog 8 #[.int .i64 a0, .int .u64 a1, .string a2] w fun e w' => e = .returned (.bool true) ∧ Below w.heap.size w w' := by
  obtain ⟨k, h⟩ := P a0 a1 a2 w0 w1 w2
  refine (lockkeeperlaw7_SafeTypes.calls k a0 a1 a2 true w h).mono ?_
  rintro e w' ⟨rfl, hd⟩
  exact ⟨rfl, hd⟩

end Go.Proofs.Ytojcceafgkdchaa.Pr
