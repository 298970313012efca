-- Made by a program of this session (wip/xp/xp.py), over the print's words.
import Derived.Test.YtojcceafgkdchaaPr0
import Derived.Test.YtojcceafgkdchaaPr2
import Derived.Test.YtojcceafgkdchaaPr3
import Derived.Test.YtojcceafgkdchaaPr5
namespace Go.Proofs.Ytojcceafgkdchaa.Pr
open Go.RowKit Go.Proofs.YtojcceafgkdchaaW.PrintWords Go.Proofs.YtojcceafgkdchaaW.PrintLast Go.Proofs.YtojcceafgkdchaaW.PrintMore
attribute [local go_sem] max2_int min2_int max_two min_two max_three min_three max_four min_four   -- for this text's walks alone
set_option linter.unusedVariables false
set_option linter.unusedSimpArgs false

/-! ### lockkeeperlaw15_CorsOthers: function 4 -/
def lockkeeperlaw15_CorsOthers.j0 : Nat → ByteArray → Bool → List (S26) → Int → Bool → ByteArray → ByteArray → Option (Bool)
  | 0, _, _, _, _, _, _, _ => none
  | k + 1, x0, x1, x2, x4, x34, x163000, x163001 => if x34 = true then ((lockkeeperlaw15_awake.f k).bind fun t174 => (some t174)) else ((lockkeeperlaw0_Low.f x4 (wrap64 ((x2.length : Int) + 1))).bind fun t175 => (if 0 ≤ t175 then (if t175 ≤ (x2.length : Int) then ((some (x2.take (t175 : Int).toNat : List (S26))).bind fun y176 => (if ([] : List (S26)).length + y176.length < 4398046511104 then ((some (([] : List (S26)) ++ y176 : List (S26))).bind fun y180 => ((some (([(⟨x163000, x163001⟩ : S26)] : List (S26)) : List (S26))).bind fun y183 => (if y180.length + y183.length < 4398046511104 then ((some (y180 ++ y183 : List (S26))).bind fun y186 => ((some (x2.drop (t175 : Int).toNat : List (S26))).bind fun y189 => (if y186.length + y189.length < 4398046511104 then ((cors_Check.f k x0 x1 (y186 ++ y189)).bind fun t196 => ((cors_Check.f k x0 x1 x2).bind fun t197 => (if t196 = t197 then ((lockkeeperlaw15_awake.f k).bind fun t198 => (some t198)) else (some false)))) else (none)))) else (none)))) else (none))) else (none)) else (none)))
def lockkeeperlaw15_CorsOthers.f (k : Nat) (a0 : ByteArray) (a1 : Bool) (l2 : List (S26)) (a3_0 : ByteArray) (a3_1 : ByteArray) (a4 : Int) : Option (Bool) := (lockkeeperlaw0_Long.f k 700 (([a0] : List ByteArray))).bind fun t166 => (if t166 = true then (lockkeeperlaw15_CorsOthers.j0 k a0 a1 l2 a4 true a3_0 a3_1) else ((lockkeeperlaw0_GreatHeaders.f k l2).bind fun t167 => (if t167 = true then (lockkeeperlaw15_CorsOthers.j0 k a0 a1 l2 a4 true a3_0 a3_1) else ((lockkeeperlaw0_GreatHeaders.f k (([(⟨a3_0, a3_1⟩ : S26)] : List (S26)))).bind fun t171 => (if t171 = true then (lockkeeperlaw15_CorsOthers.j0 k a0 a1 l2 a4 true a3_0 a3_1) else ((octet_Fold.f a3_0 (⟨#[97, 99, 99, 101, 115, 115, 45, 99, 111, 110, 116, 114, 111, 108, 45, 97, 108, 108, 111, 119, 45, 111, 114, 105, 103, 105, 110]⟩ : ByteArray)).bind fun t172 => (if t172 = true then (lockkeeperlaw15_CorsOthers.j0 k a0 a1 l2 a4 true a3_0 a3_1) else ((octet_Fold.f a3_0 (⟨#[97, 99, 99, 101, 115, 115, 45, 99, 111, 110, 116, 114, 111, 108, 45, 97, 108, 108, 111, 119, 45, 99, 114, 101, 100, 101, 110, 116, 105, 97, 108, 115]⟩ : ByteArray)).bind fun t173 => (lockkeeperlaw15_CorsOthers.j0 k a0 a1 l2 a4 t173 a3_0 a3_1)))))))))
theorem lockkeeperlaw15_CorsOthers.mono_l : ∀ k, (∀ y0 y1 y2 y3 y4 y5 y6, LeO (lockkeeperlaw15_CorsOthers.j0 k y0 y1 y2 y3 y4 y5 y6) (lockkeeperlaw15_CorsOthers.j0 (k + 1) y0 y1 y2 y3 y4 y5 y6))
  | 0 => fun _ _ _ _ _ _ _ r h => by simp [lockkeeperlaw15_CorsOthers.j0] at h
  | k + 1 => by
    have ih0 := lockkeeperlaw15_CorsOthers.mono_l k
    · intro y0 y1 y2 y3 y4 y5 y6
      unfold lockkeeperlaw15_CorsOthers.j0
      repeat' first
      | (with_reducible exact ih0 _ _ _ _ _ _ _)
      | (with_reducible exact cors_Check.mono _ _ _ _)
      | (with_reducible exact lockkeeperlaw0_GreatHeaders.mono _ _)
      | (with_reducible exact lockkeeperlaw0_Long.mono _ _ _)
      | (with_reducible exact lockkeeperlaw15_awake.mono _)
      | (with_reducible exact LeO.refl _)
      | (with_reducible exact LeO.none _)
      | (with_reducible refine LeO.ite ?_ ?_)
      | (with_reducible refine LeO.bind ?_ (fun _ => ?_))
      | exact ih0 _ _ _ _ _ _ _
      | exact cors_Check.mono _ _ _ _
      | exact lockkeeperlaw0_GreatHeaders.mono _ _
      | exact lockkeeperlaw0_Long.mono _ _ _
      | exact lockkeeperlaw15_awake.mono _
      | exact LeO.none _
      | refine LeO.ite ?_ ?_
      | refine LeO.bind ?_ (fun _ => ?_)
theorem lockkeeperlaw15_CorsOthers.mono : ∀ a0 a1 a2 a3 a4 a5 k, LeO (lockkeeperlaw15_CorsOthers.f k a0 a1 a2 a3 a4 a5) (lockkeeperlaw15_CorsOthers.f (k + 1) a0 a1 a2 a3 a4 a5) := by
  intro a0 a1 a2 a3 a4 a5 k
  have ih0 := lockkeeperlaw15_CorsOthers.mono_l k
  unfold lockkeeperlaw15_CorsOthers.f
  repeat' first
      | (with_reducible exact ih0 _ _ _ _ _ _ _)
      | (with_reducible exact cors_Check.mono _ _ _ _)
      | (with_reducible exact lockkeeperlaw0_GreatHeaders.mono _ _)
      | (with_reducible exact lockkeeperlaw0_Long.mono _ _ _)
      | (with_reducible exact lockkeeperlaw15_awake.mono _)
      | (with_reducible exact LeO.refl _)
      | (with_reducible exact LeO.none _)
      | (with_reducible refine LeO.ite ?_ ?_)
      | (with_reducible refine LeO.bind ?_ (fun _ => ?_))
      | exact ih0 _ _ _ _ _ _ _
      | exact cors_Check.mono _ _ _ _
      | exact lockkeeperlaw0_GreatHeaders.mono _ _
      | exact lockkeeperlaw0_Long.mono _ _ _
      | exact lockkeeperlaw15_awake.mono _
      | exact LeO.none _
      | refine LeO.ite ?_ ?_
      | refine LeO.bind ?_ (fun _ => ?_)
def lockkeeperlaw15_CorsOthers.T4 : Bool × List (List Nat × List Nat) := (true, [([], []), ([], []), ([0, 1], [0, 1]), ([2], [2]), ([], []), ([4], [4]), ([3, 5, 3], [3, 5]), ([], []), ([], []), ([7, 8], [7, 8]), ([6, 9, 6], [6, 9]), ([10, 10, 0, 1, 2, 3, 4, 5, 6, 7, 8, 9, 10], [10])])
def lockkeeperlaw15_CorsOthers.B4 : List Nat := [0, 0, 3, 7, 0, 16, 63, 0, 0, 384, 1023, 2047]
theorem lockkeeperlaw15_CorsOthers.tab4 : rtab .any (opsOf Try.f4 4) = lockkeeperlaw15_CorsOthers.T4 := by kernel_rfl
theorem lockkeeperlaw15_CorsOthers.bits4 : waitsOk lockkeeperlaw15_CorsOthers.T4.2 lockkeeperlaw15_CorsOthers.B4 = true := by kernel_rfl
set_option maxHeartbeats 8000000 in
set_option maxRecDepth 100000 in
theorem lockkeeperlaw15_CorsOthers.calls (k : Nat) (a0 : ByteArray) (a1 : Bool) (A2 : Option Addr) (c2 : Nat) (l2 : List (S26)) (a3_0 : ByteArray) (a3_1 : ByteArray) (a4 : Int) (r : Bool) (w : World) (hr2 : Kd.C k26 w A2 l2.length l2) (hc2 : l2.length ≤ c2) (h : lockkeeperlaw15_CorsOthers.f k a0 a1 l2 a3_0 a3_1 a4 = some r) :
    Calls Try.prog 4 #[.string a0, .bool a1, .slice A2 l2.length c2, .agg #[.string a3_0, .string a3_1], .int .i64 a4] w fun e w' => e = .returned (.bool r) ∧ Below w.heap.size w w' := by
  have hu26 := Try.underlying26
  have HR2 := Aside0.mk hr2
  have HC2 := Aside0.mk hc2
  clear hr2 hc2
  have HB := Aside0.mk (Below.refl w.heap.size w)
  have H : ((lockkeeperlaw0_Long.f k 700 (([a0] : List ByteArray))).bind fun t166 => (if t166 = true then (lockkeeperlaw15_CorsOthers.j0 k a0 a1 l2 a4 true a3_0 a3_1) else ((lockkeeperlaw0_GreatHeaders.f k l2).bind fun t167 => (if t167 = true then (lockkeeperlaw15_CorsOthers.j0 k a0 a1 l2 a4 true a3_0 a3_1) else ((lockkeeperlaw0_GreatHeaders.f k (([(⟨a3_0, a3_1⟩ : S26)] : List (S26)))).bind fun t171 => (if t171 = true then (lockkeeperlaw15_CorsOthers.j0 k a0 a1 l2 a4 true a3_0 a3_1) else ((octet_Fold.f a3_0 (⟨#[97, 99, 99, 101, 115, 115, 45, 99, 111, 110, 116, 114, 111, 108, 45, 97, 108, 108, 111, 119, 45, 111, 114, 105, 103, 105, 110]⟩ : ByteArray)).bind fun t172 => (if t172 = true then (lockkeeperlaw15_CorsOthers.j0 k a0 a1 l2 a4 true a3_0 a3_1) else ((octet_Fold.f a3_0 (⟨#[97, 99, 99, 101, 115, 115, 45, 99, 111, 110, 116, 114, 111, 108, 45, 97, 108, 108, 111, 119, 45, 99, 114, 101, 100, 101, 110, 116, 105, 97, 108, 115]⟩ : ByteArray)).bind fun t173 => (lockkeeperlaw15_CorsOthers.j0 k a0 a1 l2 a4 t173 a3_0 a3_1)))))))))) = some r := h
  clear h
  have HC6 := Aside0.mk H
  clear H
  go_enter Try.func4, Try.ntmps4
  go_upto_region 1 with (first | ((with_reducible refine gate_dst (N := 8) rfl ?_); (try (refine gate_guard (by rfl) ?_; dsimp only)); refine box_event ?hg (N := 8) ?hd (cs := #[.string a3_0, .string a3_1]) (t := 26) ?hr ?_; (case hd => rfl); (case hg => rfl); (case hr => first | (go_simp; done) | (go_simp; rfl)); intro gb162 hg w7 hbox hb; have n0_ := Aside0.mk (below_step (by repeat (first | (with_reducible first | exact HB.out | apply below_alloc | apply pw_below_drewN | apply below_drew1) | exact HB.out)) hb); have n1_ := Aside0.mk (hbox); have n2_ := Aside0.mk ((by rw [hg]; exact (below_size (by repeat (first | (with_reducible first | exact HB.out | apply below_alloc | apply pw_below_drewN | apply below_drew1) | exact HB.out))) : w.heap.size ≤ gb162)); have n3_ := Aside0.mk ((by rw [hg]; exact (below_size (by repeat (first | (with_reducible first | exact HB.out | apply below_alloc | apply pw_below_drewN | apply below_drew1) | exact HB.out))) : w.heap.size ≤ gb162)); clear HB; have HB := n0_; have BK162 := n1_; have GW162 := n2_; have GE162 := n3_; clear n0_ n1_ n2_ n3_; clear hb hbox hg))
  (try simp only [Act.put, List.setIfInBounds_toArray, List.set_cons_zero, List.set_cons_succ])
  go_cut [34] (fun v34 wc => ∃ (kq : Nat) (x34_5 : Bool), v34 = .bool x34_5 ∧ Aside0 (lockkeeperlaw15_CorsOthers.j0 kq a0 a1 l2 a4 x34_5 a3_0 a3_1 = some r) ∧ Aside0 (kq ≤ k) ∧ Aside0 (wc.heap[gb162]? = some (.cells #[.string a3_0, .string a3_1] 26 (0, 0))) ∧ Aside0 (Below w.heap.size w wc))
  case first =>
    have H := HC6.out
    clear HC6
    obtain ⟨y163, hy163⟩ : ∃ y_ : List ByteArray, y_ = (([a0] : List ByteArray)) := ⟨_, rfl⟩
    replace H : ((lockkeeperlaw0_Long.f k 700 y163).bind fun t166 => (if t166 = true then (lockkeeperlaw15_CorsOthers.j0 k a0 a1 l2 a4 true a3_0 a3_1) else ((lockkeeperlaw0_GreatHeaders.f k l2).bind fun t167 => (if t167 = true then (lockkeeperlaw15_CorsOthers.j0 k a0 a1 l2 a4 true a3_0 a3_1) else ((lockkeeperlaw0_GreatHeaders.f k (([(⟨a3_0, a3_1⟩ : S26)] : List (S26)))).bind fun t171 => (if t171 = true then (lockkeeperlaw15_CorsOthers.j0 k a0 a1 l2 a4 true a3_0 a3_1) else ((octet_Fold.f a3_0 (⟨#[97, 99, 99, 101, 115, 115, 45, 99, 111, 110, 116, 114, 111, 108, 45, 97, 108, 108, 111, 119, 45, 111, 114, 105, 103, 105, 110]⟩ : ByteArray)).bind fun t172 => (if t172 = true then (lockkeeperlaw15_CorsOthers.j0 k a0 a1 l2 a4 true a3_0 a3_1) else ((octet_Fold.f a3_0 (⟨#[97, 99, 99, 101, 115, 115, 45, 99, 111, 110, 116, 114, 111, 108, 45, 97, 108, 108, 111, 119, 45, 99, 114, 101, 100, 101, 110, 116, 105, 97, 108, 115]⟩ : ByteArray)).bind fun t173 => (lockkeeperlaw15_CorsOthers.j0 k a0 a1 l2 a4 t173 a3_0 a3_1)))))))))) = some r := by first | (rw [hy163]; with_reducible exact H) | (have H2_ := (Option.bind_some _ _).symm.trans H; rw [hy163]; with_reducible exact H2_) | (have H2_ := (Option.bind_some _ _).symm.trans H; with_reducible exact H2_) | with_reducible exact H | (rw [hy163]; exact H) | exact H
    have Ny163 := Aside0.mk hy163
    clear hy163
    replace H := Option.bind_eq_some_iff.mp H
    obtain ⟨t166, A80, H⟩ := H
    replace H : (if t166 = true then (lockkeeperlaw15_CorsOthers.j0 k a0 a1 l2 a4 true a3_0 a3_1) else ((lockkeeperlaw0_GreatHeaders.f k l2).bind fun t167 => (if t167 = true then (lockkeeperlaw15_CorsOthers.j0 k a0 a1 l2 a4 true a3_0 a3_1) else ((lockkeeperlaw0_GreatHeaders.f k (([(⟨a3_0, a3_1⟩ : S26)] : List (S26)))).bind fun t171 => (if t171 = true then (lockkeeperlaw15_CorsOthers.j0 k a0 a1 l2 a4 true a3_0 a3_1) else ((octet_Fold.f a3_0 (⟨#[97, 99, 99, 101, 115, 115, 45, 99, 111, 110, 116, 114, 111, 108, 45, 97, 108, 108, 111, 119, 45, 111, 114, 105, 103, 105, 110]⟩ : ByteArray)).bind fun t172 => (if t172 = true then (lockkeeperlaw15_CorsOthers.j0 k a0 a1 l2 a4 true a3_0 a3_1) else ((octet_Fold.f a3_0 (⟨#[97, 99, 99, 101, 115, 115, 45, 99, 111, 110, 116, 114, 111, 108, 45, 97, 108, 108, 111, 119, 45, 99, 114, 101, 100, 101, 110, 116, 105, 97, 108, 115]⟩ : ByteArray)).bind fun t173 => (lockkeeperlaw15_CorsOthers.j0 k a0 a1 l2 a4 t173 a3_0 a3_1))))))))) = some r := H
    have A8 := Aside0.mk A80
    clear A80
    by_cases c9 : t166 = true
    · subst c9
      have H1 : (lockkeeperlaw15_CorsOthers.j0 k a0 a1 l2 a4 true a3_0 a3_1) = some r := by rw [if_pos rfl] at H; exact H
      clear H
      have H := H1
      clear H1
      have H' := Aside0.mk H
      clear H
      go_wp2_with (first | ((with_reducible refine gate_dst (N := 14) rfl ?_); (try (refine gate_guard (by rfl) ?_; dsimp only)); refine Kd.R_lit Kd.string _ 9 ?hg (N := 14) ?hd (xs := ([a0] : List ByteArray)) (inner := [.string a0]) (ok := fun _ => True) (okp := fun _ => True) ?hr ?hp (fun _ hk => hk) trivial (Below.refl _ _) (Nat.le_refl _) (by simp) ?_; (case hd => rfl); (case hg => rfl); (case hr => first | (go_simp; done) | (go_simp; rfl)); (case hp => exact (Reps.one (show Kd.M Kd.string _ _ _ a0 [.string a0] from rfl) (Reps.none _ _))); intro v164 w10 ho11 hb hg_ hnew_; clear hg_ hnew_; (first | rw [← Ny163.out] at ho11 | (simp only [Int.reduceToNat] at ho11; rw [← Ny163.out] at ho11)); have n0_ := Aside0.mk (Kd.R_lower ho11 (below_size (by repeat (first | (with_reducible first | exact HB.out | apply below_alloc | apply pw_below_drewN | apply below_drew1 | refine below_set ?_ GE162.out) | exact HB.out)))); have n1_ := Aside0.mk (blk_below (g := gb162) (o := .cells #[.string a3_0, .string a3_1] 26 (0, 0)) (by (with_reducible repeat (first | refine blk_drewN ?_ _ | refine blk_drew ?_ | refine blk_alloc ?_ _)); exact BK162.out) hb); have n2_ := Aside0.mk (below_step (by repeat (first | (with_reducible first | exact HB.out | apply below_alloc | apply pw_below_drewN | apply below_drew1 | refine below_set ?_ GE162.out) | exact HB.out)) hb); clear BK162; clear HB; have HO165 := n0_; have BK162 := n1_; have HB := n2_; clear n0_ n1_ n2_; clear hb ho11; obtain ⟨Ao12, co12, eo12⟩ := Kd.R_slice HO165.out; subst eo12) | ((with_reducible refine gate_callee (f := 17) rfl ?_); refine goesL_ (some 15) rfl rfl Try.func17 (by kernel_rfl) rfl #[.int .i64 700, .slice Ao12 y163.length co12] rfl (by (try simp only [List.map_toArray, List.map_cons, List.map_nil]); first | done | rfl | (simp only [List.length_drop, List.length_take]; rfl)) ?_; (with_reducible refine (lockkeeperlaw0_Long.calls k 700 _ _ y163 true _ ?side1 ?side2 A8.out).mono ?_); (case side1 => repeat (first | exact (Kd.R_reads' HO165.out).2.2 | (with_reducible refine Kd.C_alloc ?_ _) | (with_reducible refine Kd.C_drewN ?_ _) | (with_reducible refine Kd.C_drew ?_))); (case side2 => exact (Kd.R_reads' HO165.out).2.1); rintro e w' ⟨rfl, ⟨nd, rfl⟩⟩; refine ⟨_, rfl, ?_⟩))
      go_meet
      case rel => exact ⟨_, (true), (by first | rfl | (simp; done) | (simp [*]; done)), H', ⟨by first | omega | exact Nat.le_refl _⟩, ⟨by (with_reducible repeat (first | refine blk_drewN ?_ _ | refine blk_drew ?_ | refine blk_alloc ?_ _)); exact BK162.out⟩, ⟨by repeat (first | (with_reducible first | exact HB.out | apply below_alloc | apply pw_below_drewN | apply below_drew1 | refine below_set ?_ GE162.out) | exact HB.out)⟩⟩
    · replace c9 := Bool.eq_false_iff.mpr c9
      subst c9
      have H1 : ((lockkeeperlaw0_GreatHeaders.f k l2).bind fun t167 => (if t167 = true then (lockkeeperlaw15_CorsOthers.j0 k a0 a1 l2 a4 true a3_0 a3_1) else ((lockkeeperlaw0_GreatHeaders.f k (([(⟨a3_0, a3_1⟩ : S26)] : List (S26)))).bind fun t171 => (if t171 = true then (lockkeeperlaw15_CorsOthers.j0 k a0 a1 l2 a4 true a3_0 a3_1) else ((octet_Fold.f a3_0 (⟨#[97, 99, 99, 101, 115, 115, 45, 99, 111, 110, 116, 114, 111, 108, 45, 97, 108, 108, 111, 119, 45, 111, 114, 105, 103, 105, 110]⟩ : ByteArray)).bind fun t172 => (if t172 = true then (lockkeeperlaw15_CorsOthers.j0 k a0 a1 l2 a4 true a3_0 a3_1) else ((octet_Fold.f a3_0 (⟨#[97, 99, 99, 101, 115, 115, 45, 99, 111, 110, 116, 114, 111, 108, 45, 97, 108, 108, 111, 119, 45, 99, 114, 101, 100, 101, 110, 116, 105, 97, 108, 115]⟩ : ByteArray)).bind fun t173 => (lockkeeperlaw15_CorsOthers.j0 k a0 a1 l2 a4 t173 a3_0 a3_1)))))))) = some r := by rw [if_neg (show ¬ (false = true) by decide)] at H; exact H
      clear H
      have H := H1
      clear H1
      replace H := Option.bind_eq_some_iff.mp H
      obtain ⟨t167, A130, H⟩ := H
      replace H : (if t167 = true then (lockkeeperlaw15_CorsOthers.j0 k a0 a1 l2 a4 true a3_0 a3_1) else ((lockkeeperlaw0_GreatHeaders.f k (([(⟨a3_0, a3_1⟩ : S26)] : List (S26)))).bind fun t171 => (if t171 = true then (lockkeeperlaw15_CorsOthers.j0 k a0 a1 l2 a4 true a3_0 a3_1) else ((octet_Fold.f a3_0 (⟨#[97, 99, 99, 101, 115, 115, 45, 99, 111, 110, 116, 114, 111, 108, 45, 97, 108, 108, 111, 119, 45, 111, 114, 105, 103, 105, 110]⟩ : ByteArray)).bind fun t172 => (if t172 = true then (lockkeeperlaw15_CorsOthers.j0 k a0 a1 l2 a4 true a3_0 a3_1) else ((octet_Fold.f a3_0 (⟨#[97, 99, 99, 101, 115, 115, 45, 99, 111, 110, 116, 114, 111, 108, 45, 97, 108, 108, 111, 119, 45, 99, 114, 101, 100, 101, 110, 116, 105, 97, 108, 115]⟩ : ByteArray)).bind fun t173 => (lockkeeperlaw15_CorsOthers.j0 k a0 a1 l2 a4 t173 a3_0 a3_1))))))) = some r := H
      have A13 := Aside0.mk A130
      clear A130
      by_cases c14 : t167 = true
      · subst c14
        have H1 : (lockkeeperlaw15_CorsOthers.j0 k a0 a1 l2 a4 true a3_0 a3_1) = some r := by rw [if_pos rfl] at H; exact H
        clear H
        have H := H1
        clear H1
        have H' := Aside0.mk H
        clear H
        go_wp2_with (first | ((with_reducible refine gate_dst (N := 14) rfl ?_); (try (refine gate_guard (by rfl) ?_; dsimp only)); refine Kd.R_lit Kd.string _ 9 ?hg (N := 14) ?hd (xs := ([a0] : List ByteArray)) (inner := [.string a0]) (ok := fun _ => True) (okp := fun _ => True) ?hr ?hp (fun _ hk => hk) trivial (Below.refl _ _) (Nat.le_refl _) (by simp) ?_; (case hd => rfl); (case hg => rfl); (case hr => first | (go_simp; done) | (go_simp; rfl)); (case hp => exact (Reps.one (show Kd.M Kd.string _ _ _ a0 [.string a0] from rfl) (Reps.none _ _))); intro v164 w15 ho16 hb hg_ hnew_; clear hg_ hnew_; (first | rw [← Ny163.out] at ho16 | (simp only [Int.reduceToNat] at ho16; rw [← Ny163.out] at ho16)); have n0_ := Aside0.mk (Kd.R_lower ho16 (below_size (by repeat (first | (with_reducible first | exact HB.out | apply below_alloc | apply pw_below_drewN | apply below_drew1 | refine below_set ?_ GE162.out) | exact HB.out)))); have n1_ := Aside0.mk (blk_below (g := gb162) (o := .cells #[.string a3_0, .string a3_1] 26 (0, 0)) (by (with_reducible repeat (first | refine blk_drewN ?_ _ | refine blk_drew ?_ | refine blk_alloc ?_ _)); exact BK162.out) hb); have n2_ := Aside0.mk (below_step (by repeat (first | (with_reducible first | exact HB.out | apply below_alloc | apply pw_below_drewN | apply below_drew1 | refine below_set ?_ GE162.out) | exact HB.out)) hb); clear BK162; clear HB; have HO165 := n0_; have BK162 := n1_; have HB := n2_; clear n0_ n1_ n2_; clear hb ho16; obtain ⟨Ao17, co17, eo17⟩ := Kd.R_slice HO165.out; subst eo17) | ((with_reducible refine gate_callee (f := 17) rfl ?_); refine goesL_ (some 15) rfl rfl Try.func17 (by kernel_rfl) rfl #[.int .i64 700, .slice Ao17 y163.length co17] rfl (by (try simp only [List.map_toArray, List.map_cons, List.map_nil]); first | done | rfl | (simp only [List.length_drop, List.length_take]; rfl)) ?_; (with_reducible refine (lockkeeperlaw0_Long.calls k 700 _ _ y163 false _ ?side1 ?side2 A8.out).mono ?_); (case side1 => repeat (first | exact (Kd.R_reads' HO165.out).2.2 | (with_reducible refine Kd.C_alloc ?_ _) | (with_reducible refine Kd.C_drewN ?_ _) | (with_reducible refine Kd.C_drew ?_))); (case side2 => exact (Kd.R_reads' HO165.out).2.1); rintro e w' ⟨rfl, ⟨nd, rfl⟩⟩; refine ⟨_, rfl, ?_⟩) | (go_at_call 21; (with_reducible refine (lockkeeperlaw0_GreatHeaders.calls k _ _ l2 true _ ?side1 ?side2 A13.out).mono ?_); (case side1 => repeat (first | exact (Kd.C_below HR2.out (by repeat (first | (with_reducible first | exact HB.out | apply below_alloc | apply pw_below_drewN | apply below_drew1 | refine below_set ?_ GE162.out) | exact HB.out))) | (with_reducible refine Kd.C_alloc ?_ _) | (with_reducible refine Kd.C_drewN ?_ _) | (with_reducible refine Kd.C_drew ?_))); (case side2 => exact HC2.out); rintro e w' ⟨rfl, ⟨nd, rfl⟩⟩))
        go_meet
        case rel => exact ⟨_, (true), (by first | rfl | (simp; done) | (simp [*]; done)), H', ⟨by first | omega | exact Nat.le_refl _⟩, ⟨by (with_reducible repeat (first | refine blk_drewN ?_ _ | refine blk_drew ?_ | refine blk_alloc ?_ _)); exact BK162.out⟩, ⟨by repeat (first | (with_reducible first | exact HB.out | apply below_alloc | apply pw_below_drewN | apply below_drew1 | refine below_set ?_ GE162.out) | exact HB.out)⟩⟩
      · replace c14 := Bool.eq_false_iff.mpr c14
        subst c14
        have H1 : ((lockkeeperlaw0_GreatHeaders.f k (([(⟨a3_0, a3_1⟩ : S26)] : List (S26)))).bind fun t171 => (if t171 = true then (lockkeeperlaw15_CorsOthers.j0 k a0 a1 l2 a4 true a3_0 a3_1) else ((octet_Fold.f a3_0 (⟨#[97, 99, 99, 101, 115, 115, 45, 99, 111, 110, 116, 114, 111, 108, 45, 97, 108, 108, 111, 119, 45, 111, 114, 105, 103, 105, 110]⟩ : ByteArray)).bind fun t172 => (if t172 = true then (lockkeeperlaw15_CorsOthers.j0 k a0 a1 l2 a4 true a3_0 a3_1) else ((octet_Fold.f a3_0 (⟨#[97, 99, 99, 101, 115, 115, 45, 99, 111, 110, 116, 114, 111, 108, 45, 97, 108, 108, 111, 119, 45, 99, 114, 101, 100, 101, 110, 116, 105, 97, 108, 115]⟩ : ByteArray)).bind fun t173 => (lockkeeperlaw15_CorsOthers.j0 k a0 a1 l2 a4 t173 a3_0 a3_1)))))) = some r := by rw [if_neg (show ¬ (false = true) by decide)] at H; exact H
        clear H
        have H := H1
        clear H1
        obtain ⟨y168, hy168⟩ : ∃ y_ : List (S26), y_ = (([(⟨a3_0, a3_1⟩ : S26)] : List (S26))) := ⟨_, rfl⟩
        replace H : ((lockkeeperlaw0_GreatHeaders.f k y168).bind fun t171 => (if t171 = true then (lockkeeperlaw15_CorsOthers.j0 k a0 a1 l2 a4 true a3_0 a3_1) else ((octet_Fold.f a3_0 (⟨#[97, 99, 99, 101, 115, 115, 45, 99, 111, 110, 116, 114, 111, 108, 45, 97, 108, 108, 111, 119, 45, 111, 114, 105, 103, 105, 110]⟩ : ByteArray)).bind fun t172 => (if t172 = true then (lockkeeperlaw15_CorsOthers.j0 k a0 a1 l2 a4 true a3_0 a3_1) else ((octet_Fold.f a3_0 (⟨#[97, 99, 99, 101, 115, 115, 45, 99, 111, 110, 116, 114, 111, 108, 45, 97, 108, 108, 111, 119, 45, 99, 114, 101, 100, 101, 110, 116, 105, 97, 108, 115]⟩ : ByteArray)).bind fun t173 => (lockkeeperlaw15_CorsOthers.j0 k a0 a1 l2 a4 t173 a3_0 a3_1)))))) = some r := by first | (rw [hy168]; with_reducible exact H) | (have H2_ := (Option.bind_some _ _).symm.trans H; rw [hy168]; with_reducible exact H2_) | (have H2_ := (Option.bind_some _ _).symm.trans H; with_reducible exact H2_) | with_reducible exact H | (rw [hy168]; exact H) | exact H
        have Ny168 := Aside0.mk hy168
        clear hy168
        replace H := Option.bind_eq_some_iff.mp H
        obtain ⟨t171, A180, H⟩ := H
        replace H : (if t171 = true then (lockkeeperlaw15_CorsOthers.j0 k a0 a1 l2 a4 true a3_0 a3_1) else ((octet_Fold.f a3_0 (⟨#[97, 99, 99, 101, 115, 115, 45, 99, 111, 110, 116, 114, 111, 108, 45, 97, 108, 108, 111, 119, 45, 111, 114, 105, 103, 105, 110]⟩ : ByteArray)).bind fun t172 => (if t172 = true then (lockkeeperlaw15_CorsOthers.j0 k a0 a1 l2 a4 true a3_0 a3_1) else ((octet_Fold.f a3_0 (⟨#[97, 99, 99, 101, 115, 115, 45, 99, 111, 110, 116, 114, 111, 108, 45, 97, 108, 108, 111, 119, 45, 99, 114, 101, 100, 101, 110, 116, 105, 97, 108, 115]⟩ : ByteArray)).bind fun t173 => (lockkeeperlaw15_CorsOthers.j0 k a0 a1 l2 a4 t173 a3_0 a3_1))))) = some r := H
        have A18 := Aside0.mk A180
        clear A180
        by_cases c19 : t171 = true
        · subst c19
          have H1 : (lockkeeperlaw15_CorsOthers.j0 k a0 a1 l2 a4 true a3_0 a3_1) = some r := by rw [if_pos rfl] at H; exact H
          clear H
          have H := H1
          clear H1
          have H' := Aside0.mk H
          clear H
          go_wp2_with (first | ((with_reducible refine gate_dst (N := 14) rfl ?_); (try (refine gate_guard (by rfl) ?_; dsimp only)); refine Kd.R_lit Kd.string _ 9 ?hg (N := 14) ?hd (xs := ([a0] : List ByteArray)) (inner := [.string a0]) (ok := fun _ => True) (okp := fun _ => True) ?hr ?hp (fun _ hk => hk) trivial (Below.refl _ _) (Nat.le_refl _) (by simp) ?_; (case hd => rfl); (case hg => rfl); (case hr => first | (go_simp; done) | (go_simp; rfl)); (case hp => exact (Reps.one (show Kd.M Kd.string _ _ _ a0 [.string a0] from rfl) (Reps.none _ _))); intro v164 w20 ho21 hb hg_ hnew_; clear hg_ hnew_; (first | rw [← Ny163.out] at ho21 | (simp only [Int.reduceToNat] at ho21; rw [← Ny163.out] at ho21)); have n0_ := Aside0.mk (Kd.R_lower ho21 (below_size (by repeat (first | (with_reducible first | exact HB.out | apply below_alloc | apply pw_below_drewN | apply below_drew1 | refine below_set ?_ GE162.out) | exact HB.out)))); have n1_ := Aside0.mk (blk_below (g := gb162) (o := .cells #[.string a3_0, .string a3_1] 26 (0, 0)) (by (with_reducible repeat (first | refine blk_drewN ?_ _ | refine blk_drew ?_ | refine blk_alloc ?_ _)); exact BK162.out) hb); have n2_ := Aside0.mk (below_step (by repeat (first | (with_reducible first | exact HB.out | apply below_alloc | apply pw_below_drewN | apply below_drew1 | refine below_set ?_ GE162.out) | exact HB.out)) hb); clear BK162; clear HB; have HO165 := n0_; have BK162 := n1_; have HB := n2_; clear n0_ n1_ n2_; clear hb ho21; obtain ⟨Ao22, co22, eo22⟩ := Kd.R_slice HO165.out; subst eo22) | ((with_reducible refine gate_callee (f := 17) rfl ?_); refine goesL_ (some 15) rfl rfl Try.func17 (by kernel_rfl) rfl #[.int .i64 700, .slice Ao22 y163.length co22] rfl (by (try simp only [List.map_toArray, List.map_cons, List.map_nil]); first | done | rfl | (simp only [List.length_drop, List.length_take]; rfl)) ?_; (with_reducible refine (lockkeeperlaw0_Long.calls k 700 _ _ y163 false _ ?side1 ?side2 A8.out).mono ?_); (case side1 => repeat (first | exact (Kd.R_reads' HO165.out).2.2 | (with_reducible refine Kd.C_alloc ?_ _) | (with_reducible refine Kd.C_drewN ?_ _) | (with_reducible refine Kd.C_drew ?_))); (case side2 => exact (Kd.R_reads' HO165.out).2.1); rintro e w' ⟨rfl, ⟨nd, rfl⟩⟩; refine ⟨_, rfl, ?_⟩) | (go_at_call 21; (with_reducible refine (lockkeeperlaw0_GreatHeaders.calls k _ _ l2 false _ ?side1 ?side2 A13.out).mono ?_); (case side1 => repeat (first | exact (Kd.C_below HR2.out (by repeat (first | (with_reducible first | exact HB.out | apply below_alloc | apply pw_below_drewN | apply below_drew1 | refine below_set ?_ GE162.out) | exact HB.out))) | (with_reducible refine Kd.C_alloc ?_ _) | (with_reducible refine Kd.C_drewN ?_ _) | (with_reducible refine Kd.C_drew ?_))); (case side2 => exact HC2.out); rintro e w' ⟨rfl, ⟨nd, rfl⟩⟩; have hcz23_0 : w20.cell? ⟨gb162, 0, none⟩ = some (.string a3_0) := (blk_cell BK162.out 0).trans rfl; have hcz23_1 : w20.cell? ⟨gb162, 1, none⟩ = some (.string a3_1) := (blk_cell BK162.out 1).trans rfl; have hfz23_0 := blk_frozen BK162.out 0; have hfz23_1 := blk_frozen BK162.out 1) | ((with_reducible refine gate_dst (N := 22) rfl ?_); (try (refine gate_guard (by rfl) ?_; dsimp only)); refine Kd.R_lit k26 _ 26 ?hg (N := 22) ?hd (xs := ([(⟨a3_0, a3_1⟩ : S26)] : List (S26))) (inner := [.string a3_0, .string a3_1]) (ok := fun _ => True) (okp := fun _ => True) ?hr ?hp (fun _ hk => hk) trivial (Below.refl _ _) (Nat.le_refl _) (by simp) ?_; (case hd => rfl); (case hg => rfl); (case hr => first | (go_simp; done) | (go_simp; rfl)); (case hp => exact (Reps.c2 (show Kd.M k26 _ _ _ (⟨a3_0, a3_1⟩ : S26) [.string a3_0, .string a3_1] from (k26_mkM _ _ _ (⟨a3_0, a3_1⟩ : S26) )) (Reps.none _ _))); intro v169 w24 ho25 hb hg_ hnew_; clear hg_ hnew_; (first | rw [← Ny168.out] at ho25 | (simp only [Int.reduceToNat] at ho25; rw [← Ny168.out] at ho25)); have n0_ := Aside0.mk (Kd.R_below (by (with_reducible repeat (first | apply Kd.R_alloc | apply Kd.R_drewN | apply Kd.R_drew)); exact HO165.out) hb); have n1_ := Aside0.mk (Kd.R_lower (Kd.R_newB ho25 (g := gb162) (o := .cells #[.string a3_0, .string a3_1] 26 (0, 0)) (by (with_reducible repeat (first | refine blk_drewN ?_ _ | refine blk_drew ?_ | refine blk_alloc ?_ _)); exact BK162.out)) (below_size (by repeat (first | (with_reducible first | exact HB.out | apply below_alloc | apply pw_below_drewN | apply below_drew1 | refine below_set ?_ GE162.out) | exact HB.out)))); have n2_ := Aside0.mk (blk_below (g := gb162) (o := .cells #[.string a3_0, .string a3_1] 26 (0, 0)) (by (with_reducible repeat (first | refine blk_drewN ?_ _ | refine blk_drew ?_ | refine blk_alloc ?_ _)); exact BK162.out) hb); have n3_ := Aside0.mk (below_step (by repeat (first | (with_reducible first | exact HB.out | apply below_alloc | apply pw_below_drewN | apply below_drew1 | refine below_set ?_ GE162.out) | exact HB.out)) hb); clear HO165; clear BK162; clear HB; have HO165 := n0_; have HO170 := n1_; have BK162 := n2_; have HB := n3_; clear n0_ n1_ n2_ n3_; clear hb ho25; obtain ⟨Ao26, co26, eo26⟩ := Kd.R_slice HO170.out; subst eo26) | (go_at_call 21; (with_reducible refine (lockkeeperlaw0_GreatHeaders.calls k _ _ y168 true _ ?side1 ?side2 A18.out).mono ?_); (case side1 => repeat (first | exact (Kd.R_reads' HO170.out).2.2 | (with_reducible refine Kd.C_alloc ?_ _) | (with_reducible refine Kd.C_drewN ?_ _) | (with_reducible refine Kd.C_drew ?_))); (case side2 => exact (Kd.R_reads' HO170.out).2.1); rintro e w' ⟨rfl, ⟨nd, rfl⟩⟩))
          go_meet
          case rel => exact ⟨_, (true), (by first | rfl | (simp; done) | (simp [*]; done)), H', ⟨by first | omega | exact Nat.le_refl _⟩, ⟨by (with_reducible repeat (first | refine blk_drewN ?_ _ | refine blk_drew ?_ | refine blk_alloc ?_ _)); exact BK162.out⟩, ⟨by repeat (first | (with_reducible first | exact HB.out | apply below_alloc | apply pw_below_drewN | apply below_drew1 | refine below_set ?_ GE162.out) | exact HB.out)⟩⟩
        · replace c19 := Bool.eq_false_iff.mpr c19
          subst c19
          have H1 : ((octet_Fold.f a3_0 (⟨#[97, 99, 99, 101, 115, 115, 45, 99, 111, 110, 116, 114, 111, 108, 45, 97, 108, 108, 111, 119, 45, 111, 114, 105, 103, 105, 110]⟩ : ByteArray)).bind fun t172 => (if t172 = true then (lockkeeperlaw15_CorsOthers.j0 k a0 a1 l2 a4 true a3_0 a3_1) else ((octet_Fold.f a3_0 (⟨#[97, 99, 99, 101, 115, 115, 45, 99, 111, 110, 116, 114, 111, 108, 45, 97, 108, 108, 111, 119, 45, 99, 114, 101, 100, 101, 110, 116, 105, 97, 108, 115]⟩ : ByteArray)).bind fun t173 => (lockkeeperlaw15_CorsOthers.j0 k a0 a1 l2 a4 t173 a3_0 a3_1)))) = some r := by rw [if_neg (show ¬ (false = true) by decide)] at H; exact H
          clear H
          have H := H1
          clear H1
          replace H := Option.bind_eq_some_iff.mp H
          obtain ⟨t172, A270, H⟩ := H
          replace H : (if t172 = true then (lockkeeperlaw15_CorsOthers.j0 k a0 a1 l2 a4 true a3_0 a3_1) else ((octet_Fold.f a3_0 (⟨#[97, 99, 99, 101, 115, 115, 45, 99, 111, 110, 116, 114, 111, 108, 45, 97, 108, 108, 111, 119, 45, 99, 114, 101, 100, 101, 110, 116, 105, 97, 108, 115]⟩ : ByteArray)).bind fun t173 => (lockkeeperlaw15_CorsOthers.j0 k a0 a1 l2 a4 t173 a3_0 a3_1))) = some r := H
          have A27 := Aside0.mk A270
          clear A270
          by_cases c28 : t172 = true
          · subst c28
            have H1 : (lockkeeperlaw15_CorsOthers.j0 k a0 a1 l2 a4 true a3_0 a3_1) = some r := by rw [if_pos rfl] at H; exact H
            clear H
            have H := H1
            clear H1
            have H' := Aside0.mk H
            clear H
            go_wp2_with (first | ((with_reducible refine gate_dst (N := 14) rfl ?_); (try (refine gate_guard (by rfl) ?_; dsimp only)); refine Kd.R_lit Kd.string _ 9 ?hg (N := 14) ?hd (xs := ([a0] : List ByteArray)) (inner := [.string a0]) (ok := fun _ => True) (okp := fun _ => True) ?hr ?hp (fun _ hk => hk) trivial (Below.refl _ _) (Nat.le_refl _) (by simp) ?_; (case hd => rfl); (case hg => rfl); (case hr => first | (go_simp; done) | (go_simp; rfl)); (case hp => exact (Reps.one (show Kd.M Kd.string _ _ _ a0 [.string a0] from rfl) (Reps.none _ _))); intro v164 w29 ho30 hb hg_ hnew_; clear hg_ hnew_; (first | rw [← Ny163.out] at ho30 | (simp only [Int.reduceToNat] at ho30; rw [← Ny163.out] at ho30)); have n0_ := Aside0.mk (Kd.R_lower ho30 (below_size (by repeat (first | (with_reducible first | exact HB.out | apply below_alloc | apply pw_below_drewN | apply below_drew1 | refine below_set ?_ GE162.out) | exact HB.out)))); have n1_ := Aside0.mk (blk_below (g := gb162) (o := .cells #[.string a3_0, .string a3_1] 26 (0, 0)) (by (with_reducible repeat (first | refine blk_drewN ?_ _ | refine blk_drew ?_ | refine blk_alloc ?_ _)); exact BK162.out) hb); have n2_ := Aside0.mk (below_step (by repeat (first | (with_reducible first | exact HB.out | apply below_alloc | apply pw_below_drewN | apply below_drew1 | refine below_set ?_ GE162.out) | exact HB.out)) hb); clear BK162; clear HB; have HO165 := n0_; have BK162 := n1_; have HB := n2_; clear n0_ n1_ n2_; clear hb ho30; obtain ⟨Ao31, co31, eo31⟩ := Kd.R_slice HO165.out; subst eo31) | ((with_reducible refine gate_callee (f := 17) rfl ?_); refine goesL_ (some 15) rfl rfl Try.func17 (by kernel_rfl) rfl #[.int .i64 700, .slice Ao31 y163.length co31] rfl (by (try simp only [List.map_toArray, List.map_cons, List.map_nil]); first | done | rfl | (simp only [List.length_drop, List.length_take]; rfl)) ?_; (with_reducible refine (lockkeeperlaw0_Long.calls k 700 _ _ y163 false _ ?side1 ?side2 A8.out).mono ?_); (case side1 => repeat (first | exact (Kd.R_reads' HO165.out).2.2 | (with_reducible refine Kd.C_alloc ?_ _) | (with_reducible refine Kd.C_drewN ?_ _) | (with_reducible refine Kd.C_drew ?_))); (case side2 => exact (Kd.R_reads' HO165.out).2.1); rintro e w' ⟨rfl, ⟨nd, rfl⟩⟩; refine ⟨_, rfl, ?_⟩) | (go_at_call 21; (with_reducible refine (lockkeeperlaw0_GreatHeaders.calls k _ _ l2 false _ ?side1 ?side2 A13.out).mono ?_); (case side1 => repeat (first | exact (Kd.C_below HR2.out (by repeat (first | (with_reducible first | exact HB.out | apply below_alloc | apply pw_below_drewN | apply below_drew1 | refine below_set ?_ GE162.out) | exact HB.out))) | (with_reducible refine Kd.C_alloc ?_ _) | (with_reducible refine Kd.C_drewN ?_ _) | (with_reducible refine Kd.C_drew ?_))); (case side2 => exact HC2.out); rintro e w' ⟨rfl, ⟨nd, rfl⟩⟩; have hcz32_0 : w29.cell? ⟨gb162, 0, none⟩ = some (.string a3_0) := (blk_cell BK162.out 0).trans rfl; have hcz32_1 : w29.cell? ⟨gb162, 1, none⟩ = some (.string a3_1) := (blk_cell BK162.out 1).trans rfl; have hfz32_0 := blk_frozen BK162.out 0; have hfz32_1 := blk_frozen BK162.out 1) | ((with_reducible refine gate_dst (N := 22) rfl ?_); (try (refine gate_guard (by rfl) ?_; dsimp only)); refine Kd.R_lit k26 _ 26 ?hg (N := 22) ?hd (xs := ([(⟨a3_0, a3_1⟩ : S26)] : List (S26))) (inner := [.string a3_0, .string a3_1]) (ok := fun _ => True) (okp := fun _ => True) ?hr ?hp (fun _ hk => hk) trivial (Below.refl _ _) (Nat.le_refl _) (by simp) ?_; (case hd => rfl); (case hg => rfl); (case hr => first | (go_simp; done) | (go_simp; rfl)); (case hp => exact (Reps.c2 (show Kd.M k26 _ _ _ (⟨a3_0, a3_1⟩ : S26) [.string a3_0, .string a3_1] from (k26_mkM _ _ _ (⟨a3_0, a3_1⟩ : S26) )) (Reps.none _ _))); intro v169 w33 ho34 hb hg_ hnew_; clear hg_ hnew_; (first | rw [← Ny168.out] at ho34 | (simp only [Int.reduceToNat] at ho34; rw [← Ny168.out] at ho34)); have n0_ := Aside0.mk (Kd.R_below (by (with_reducible repeat (first | apply Kd.R_alloc | apply Kd.R_drewN | apply Kd.R_drew)); exact HO165.out) hb); have n1_ := Aside0.mk (Kd.R_lower (Kd.R_newB ho34 (g := gb162) (o := .cells #[.string a3_0, .string a3_1] 26 (0, 0)) (by (with_reducible repeat (first | refine blk_drewN ?_ _ | refine blk_drew ?_ | refine blk_alloc ?_ _)); exact BK162.out)) (below_size (by repeat (first | (with_reducible first | exact HB.out | apply below_alloc | apply pw_below_drewN | apply below_drew1 | refine below_set ?_ GE162.out) | exact HB.out)))); have n2_ := Aside0.mk (blk_below (g := gb162) (o := .cells #[.string a3_0, .string a3_1] 26 (0, 0)) (by (with_reducible repeat (first | refine blk_drewN ?_ _ | refine blk_drew ?_ | refine blk_alloc ?_ _)); exact BK162.out) hb); have n3_ := Aside0.mk (below_step (by repeat (first | (with_reducible first | exact HB.out | apply below_alloc | apply pw_below_drewN | apply below_drew1 | refine below_set ?_ GE162.out) | exact HB.out)) hb); clear HO165; clear BK162; clear HB; have HO165 := n0_; have HO170 := n1_; have BK162 := n2_; have HB := n3_; clear n0_ n1_ n2_ n3_; clear hb ho34; obtain ⟨Ao35, co35, eo35⟩ := Kd.R_slice HO170.out; subst eo35) | (go_at_call 21; (with_reducible refine (lockkeeperlaw0_GreatHeaders.calls k _ _ y168 false _ ?side1 ?side2 A18.out).mono ?_); (case side1 => repeat (first | exact (Kd.R_reads' HO170.out).2.2 | (with_reducible refine Kd.C_alloc ?_ _) | (with_reducible refine Kd.C_drewN ?_ _) | (with_reducible refine Kd.C_drew ?_))); (case side2 => exact (Kd.R_reads' HO170.out).2.1); rintro e w' ⟨rfl, ⟨nd, rfl⟩⟩; have hcz36_0 : w33.cell? ⟨gb162, 0, none⟩ = some (.string a3_0) := (blk_cell BK162.out 0).trans rfl; have hcz36_1 : w33.cell? ⟨gb162, 1, none⟩ = some (.string a3_1) := (blk_cell BK162.out 1).trans rfl; have hfz36_0 := blk_frozen BK162.out 0; have hfz36_1 := blk_frozen BK162.out 1) | (go_at_call 22; (with_reducible refine (octet_Fold.calls a3_0 (⟨#[97, 99, 99, 101, 115, 115, 45, 99, 111, 110, 116, 114, 111, 108, 45, 97, 108, 108, 111, 119, 45, 111, 114, 105, 103, 105, 110]⟩ : ByteArray) true _ A27.out).mono ?_); rintro e w37 ⟨rfl, hb⟩; have n0_ := Aside0.mk (Kd.R_below (by (with_reducible repeat (first | apply Kd.R_alloc | apply Kd.R_drewN | apply Kd.R_drew)); exact HO165.out) hb); have n1_ := Aside0.mk (Kd.R_below (by (with_reducible repeat (first | apply Kd.R_alloc | apply Kd.R_drewN | apply Kd.R_drew)); exact HO170.out) hb); have n2_ := Aside0.mk (blk_below (g := gb162) (o := .cells #[.string a3_0, .string a3_1] 26 (0, 0)) (by (with_reducible repeat (first | refine blk_drewN ?_ _ | refine blk_drew ?_ | refine blk_alloc ?_ _)); exact BK162.out) hb); have n3_ := Aside0.mk (below_step (by repeat (first | (with_reducible first | exact HB.out | apply below_alloc | apply pw_below_drewN | apply below_drew1 | refine below_set ?_ GE162.out) | exact HB.out)) hb); clear HO165; clear HO170; clear BK162; clear HB; have HO165 := n0_; have HO170 := n1_; have BK162 := n2_; have HB := n3_; clear n0_ n1_ n2_ n3_; (try clear hb); (try clear hb2); (try clear hk); (try clear hi)))
            go_meet
            case rel => exact ⟨_, (true), (by first | rfl | (simp; done) | (simp [*]; done)), H', ⟨by first | omega | exact Nat.le_refl _⟩, ⟨by (with_reducible repeat (first | refine blk_drewN ?_ _ | refine blk_drew ?_ | refine blk_alloc ?_ _)); exact BK162.out⟩, ⟨by repeat (first | (with_reducible first | exact HB.out | apply below_alloc | apply pw_below_drewN | apply below_drew1 | refine below_set ?_ GE162.out) | exact HB.out)⟩⟩
          · replace c28 := Bool.eq_false_iff.mpr c28
            subst c28
            have H1 : ((octet_Fold.f a3_0 (⟨#[97, 99, 99, 101, 115, 115, 45, 99, 111, 110, 116, 114, 111, 108, 45, 97, 108, 108, 111, 119, 45, 99, 114, 101, 100, 101, 110, 116, 105, 97, 108, 115]⟩ : ByteArray)).bind fun t173 => (lockkeeperlaw15_CorsOthers.j0 k a0 a1 l2 a4 t173 a3_0 a3_1)) = some r := by rw [if_neg (show ¬ (false = true) by decide)] at H; exact H
            clear H
            have H := H1
            clear H1
            replace H := Option.bind_eq_some_iff.mp H
            obtain ⟨t173, A380, H⟩ := H
            replace H : (lockkeeperlaw15_CorsOthers.j0 k a0 a1 l2 a4 t173 a3_0 a3_1) = some r := H
            have A38 := Aside0.mk A380
            clear A380
            have H' := Aside0.mk H
            clear H
            go_wp2_with (first | ((with_reducible refine gate_dst (N := 14) rfl ?_); (try (refine gate_guard (by rfl) ?_; dsimp only)); refine Kd.R_lit Kd.string _ 9 ?hg (N := 14) ?hd (xs := ([a0] : List ByteArray)) (inner := [.string a0]) (ok := fun _ => True) (okp := fun _ => True) ?hr ?hp (fun _ hk => hk) trivial (Below.refl _ _) (Nat.le_refl _) (by simp) ?_; (case hd => rfl); (case hg => rfl); (case hr => first | (go_simp; done) | (go_simp; rfl)); (case hp => exact (Reps.one (show Kd.M Kd.string _ _ _ a0 [.string a0] from rfl) (Reps.none _ _))); intro v164 w39 ho40 hb hg_ hnew_; clear hg_ hnew_; (first | rw [← Ny163.out] at ho40 | (simp only [Int.reduceToNat] at ho40; rw [← Ny163.out] at ho40)); have n0_ := Aside0.mk (Kd.R_lower ho40 (below_size (by repeat (first | (with_reducible first | exact HB.out | apply below_alloc | apply pw_below_drewN | apply below_drew1 | refine below_set ?_ GE162.out) | exact HB.out)))); have n1_ := Aside0.mk (blk_below (g := gb162) (o := .cells #[.string a3_0, .string a3_1] 26 (0, 0)) (by (with_reducible repeat (first | refine blk_drewN ?_ _ | refine blk_drew ?_ | refine blk_alloc ?_ _)); exact BK162.out) hb); have n2_ := Aside0.mk (below_step (by repeat (first | (with_reducible first | exact HB.out | apply below_alloc | apply pw_below_drewN | apply below_drew1 | refine below_set ?_ GE162.out) | exact HB.out)) hb); clear BK162; clear HB; have HO165 := n0_; have BK162 := n1_; have HB := n2_; clear n0_ n1_ n2_; clear hb ho40; obtain ⟨Ao41, co41, eo41⟩ := Kd.R_slice HO165.out; subst eo41) | ((with_reducible refine gate_callee (f := 17) rfl ?_); refine goesL_ (some 15) rfl rfl Try.func17 (by kernel_rfl) rfl #[.int .i64 700, .slice Ao41 y163.length co41] rfl (by (try simp only [List.map_toArray, List.map_cons, List.map_nil]); first | done | rfl | (simp only [List.length_drop, List.length_take]; rfl)) ?_; (with_reducible refine (lockkeeperlaw0_Long.calls k 700 _ _ y163 false _ ?side1 ?side2 A8.out).mono ?_); (case side1 => repeat (first | exact (Kd.R_reads' HO165.out).2.2 | (with_reducible refine Kd.C_alloc ?_ _) | (with_reducible refine Kd.C_drewN ?_ _) | (with_reducible refine Kd.C_drew ?_))); (case side2 => exact (Kd.R_reads' HO165.out).2.1); rintro e w' ⟨rfl, ⟨nd, rfl⟩⟩; refine ⟨_, rfl, ?_⟩) | (go_at_call 21; (with_reducible refine (lockkeeperlaw0_GreatHeaders.calls k _ _ l2 false _ ?side1 ?side2 A13.out).mono ?_); (case side1 => repeat (first | exact (Kd.C_below HR2.out (by repeat (first | (with_reducible first | exact HB.out | apply below_alloc | apply pw_below_drewN | apply below_drew1 | refine below_set ?_ GE162.out) | exact HB.out))) | (with_reducible refine Kd.C_alloc ?_ _) | (with_reducible refine Kd.C_drewN ?_ _) | (with_reducible refine Kd.C_drew ?_))); (case side2 => exact HC2.out); rintro e w' ⟨rfl, ⟨nd, rfl⟩⟩; have hcz42_0 : w39.cell? ⟨gb162, 0, none⟩ = some (.string a3_0) := (blk_cell BK162.out 0).trans rfl; have hcz42_1 : w39.cell? ⟨gb162, 1, none⟩ = some (.string a3_1) := (blk_cell BK162.out 1).trans rfl; have hfz42_0 := blk_frozen BK162.out 0; have hfz42_1 := blk_frozen BK162.out 1) | ((with_reducible refine gate_dst (N := 22) rfl ?_); (try (refine gate_guard (by rfl) ?_; dsimp only)); refine Kd.R_lit k26 _ 26 ?hg (N := 22) ?hd (xs := ([(⟨a3_0, a3_1⟩ : S26)] : List (S26))) (inner := [.string a3_0, .string a3_1]) (ok := fun _ => True) (okp := fun _ => True) ?hr ?hp (fun _ hk => hk) trivial (Below.refl _ _) (Nat.le_refl _) (by simp) ?_; (case hd => rfl); (case hg => rfl); (case hr => first | (go_simp; done) | (go_simp; rfl)); (case hp => exact (Reps.c2 (show Kd.M k26 _ _ _ (⟨a3_0, a3_1⟩ : S26) [.string a3_0, .string a3_1] from (k26_mkM _ _ _ (⟨a3_0, a3_1⟩ : S26) )) (Reps.none _ _))); intro v169 w43 ho44 hb hg_ hnew_; clear hg_ hnew_; (first | rw [← Ny168.out] at ho44 | (simp only [Int.reduceToNat] at ho44; rw [← Ny168.out] at ho44)); have n0_ := Aside0.mk (Kd.R_below (by (with_reducible repeat (first | apply Kd.R_alloc | apply Kd.R_drewN | apply Kd.R_drew)); exact HO165.out) hb); have n1_ := Aside0.mk (Kd.R_lower (Kd.R_newB ho44 (g := gb162) (o := .cells #[.string a3_0, .string a3_1] 26 (0, 0)) (by (with_reducible repeat (first | refine blk_drewN ?_ _ | refine blk_drew ?_ | refine blk_alloc ?_ _)); exact BK162.out)) (below_size (by repeat (first | (with_reducible first | exact HB.out | apply below_alloc | apply pw_below_drewN | apply below_drew1 | refine below_set ?_ GE162.out) | exact HB.out)))); have n2_ := Aside0.mk (blk_below (g := gb162) (o := .cells #[.string a3_0, .string a3_1] 26 (0, 0)) (by (with_reducible repeat (first | refine blk_drewN ?_ _ | refine blk_drew ?_ | refine blk_alloc ?_ _)); exact BK162.out) hb); have n3_ := Aside0.mk (below_step (by repeat (first | (with_reducible first | exact HB.out | apply below_alloc | apply pw_below_drewN | apply below_drew1 | refine below_set ?_ GE162.out) | exact HB.out)) hb); clear HO165; clear BK162; clear HB; have HO165 := n0_; have HO170 := n1_; have BK162 := n2_; have HB := n3_; clear n0_ n1_ n2_ n3_; clear hb ho44; obtain ⟨Ao45, co45, eo45⟩ := Kd.R_slice HO170.out; subst eo45) | (go_at_call 21; (with_reducible refine (lockkeeperlaw0_GreatHeaders.calls k _ _ y168 false _ ?side1 ?side2 A18.out).mono ?_); (case side1 => repeat (first | exact (Kd.R_reads' HO170.out).2.2 | (with_reducible refine Kd.C_alloc ?_ _) | (with_reducible refine Kd.C_drewN ?_ _) | (with_reducible refine Kd.C_drew ?_))); (case side2 => exact (Kd.R_reads' HO170.out).2.1); rintro e w' ⟨rfl, ⟨nd, rfl⟩⟩; have hcz46_0 : w43.cell? ⟨gb162, 0, none⟩ = some (.string a3_0) := (blk_cell BK162.out 0).trans rfl; have hcz46_1 : w43.cell? ⟨gb162, 1, none⟩ = some (.string a3_1) := (blk_cell BK162.out 1).trans rfl; have hfz46_0 := blk_frozen BK162.out 0; have hfz46_1 := blk_frozen BK162.out 1) | (go_at_call 22; (with_reducible refine (octet_Fold.calls a3_0 (⟨#[97, 99, 99, 101, 115, 115, 45, 99, 111, 110, 116, 114, 111, 108, 45, 97, 108, 108, 111, 119, 45, 111, 114, 105, 103, 105, 110]⟩ : ByteArray) false _ A27.out).mono ?_); rintro e w47 ⟨rfl, hb⟩; have n0_ := Aside0.mk (Kd.R_below (by (with_reducible repeat (first | apply Kd.R_alloc | apply Kd.R_drewN | apply Kd.R_drew)); exact HO165.out) hb); have n1_ := Aside0.mk (Kd.R_below (by (with_reducible repeat (first | apply Kd.R_alloc | apply Kd.R_drewN | apply Kd.R_drew)); exact HO170.out) hb); have n2_ := Aside0.mk (blk_below (g := gb162) (o := .cells #[.string a3_0, .string a3_1] 26 (0, 0)) (by (with_reducible repeat (first | refine blk_drewN ?_ _ | refine blk_drew ?_ | refine blk_alloc ?_ _)); exact BK162.out) hb); have n3_ := Aside0.mk (below_step (by repeat (first | (with_reducible first | exact HB.out | apply below_alloc | apply pw_below_drewN | apply below_drew1 | refine below_set ?_ GE162.out) | exact HB.out)) hb); clear HO165; clear HO170; clear BK162; clear HB; have HO165 := n0_; have HO170 := n1_; have BK162 := n2_; have HB := n3_; clear n0_ n1_ n2_ n3_; (try clear hb); (try clear hb2); (try clear hk); (try clear hi); have hcz48_0 : w47.cell? ⟨gb162, 0, none⟩ = some (.string a3_0) := (blk_cell BK162.out 0).trans rfl; have hcz48_1 : w47.cell? ⟨gb162, 1, none⟩ = some (.string a3_1) := (blk_cell BK162.out 1).trans rfl; have hfz48_0 := blk_frozen BK162.out 0; have hfz48_1 := blk_frozen BK162.out 1) | (go_at_call 22; (with_reducible refine (octet_Fold.calls a3_0 (⟨#[97, 99, 99, 101, 115, 115, 45, 99, 111, 110, 116, 114, 111, 108, 45, 97, 108, 108, 111, 119, 45, 99, 114, 101, 100, 101, 110, 116, 105, 97, 108, 115]⟩ : ByteArray) t173 _ A38.out).mono ?_); rintro e w49 ⟨rfl, hb⟩; have n0_ := Aside0.mk (Kd.R_below (by (with_reducible repeat (first | apply Kd.R_alloc | apply Kd.R_drewN | apply Kd.R_drew)); exact HO165.out) hb); have n1_ := Aside0.mk (Kd.R_below (by (with_reducible repeat (first | apply Kd.R_alloc | apply Kd.R_drewN | apply Kd.R_drew)); exact HO170.out) hb); have n2_ := Aside0.mk (blk_below (g := gb162) (o := .cells #[.string a3_0, .string a3_1] 26 (0, 0)) (by (with_reducible repeat (first | refine blk_drewN ?_ _ | refine blk_drew ?_ | refine blk_alloc ?_ _)); exact BK162.out) hb); have n3_ := Aside0.mk (below_step (by repeat (first | (with_reducible first | exact HB.out | apply below_alloc | apply pw_below_drewN | apply below_drew1 | refine below_set ?_ GE162.out) | exact HB.out)) hb); clear HO165; clear HO170; clear BK162; clear HB; have HO165 := n0_; have HO170 := n1_; have BK162 := n2_; have HB := n3_; clear n0_ n1_ n2_ n3_; (try clear hb); (try clear hb2); (try clear hk); (try clear hi)))
            go_meet
            case rel => exact ⟨_, (t173), (by first | rfl | (simp; done) | (simp [*]; done)), H', ⟨by first | omega | exact Nat.le_refl _⟩, ⟨by (with_reducible repeat (first | refine blk_drewN ?_ _ | refine blk_drew ?_ | refine blk_alloc ?_ _)); exact BK162.out⟩, ⟨by repeat (first | (with_reducible first | exact HB.out | apply below_alloc | apply pw_below_drewN | apply below_drew1 | refine below_set ?_ GE162.out) | exact HB.out)⟩⟩
  case rest =>
    clear HC6
    try clear c1
    try clear c2
    try clear p2
    try clear c4
    try clear c9
    try clear c14
    try clear c17
    try clear c19
    try clear c28
    try clear hcz23_0
    try clear hcz23_1
    try clear hcz32_0
    try clear hcz32_1
    try clear hcz36_0
    try clear hcz36_1
    try clear hcz42_0
    try clear hcz42_1
    try clear hcz46_0
    try clear hcz46_1
    try clear hcz48_0
    try clear hcz48_1
    try clear hfz23_0
    try clear hfz23_1
    try clear hfz32_0
    try clear hfz32_1
    try clear hfz36_0
    try clear hfz36_1
    try clear hfz42_0
    try clear hfz42_1
    try clear hfz46_0
    try clear hfz46_1
    try clear hfz48_0
    try clear hfz48_1
    obtain ⟨kq, x34_5, rfl, HA, HJ5, BK162, HB⟩ := hcut
    cases kq with
    | zero => exact absurd HA.out (by simp [lockkeeperlaw15_CorsOthers.j0])
    | succ kj5 =>
      have H := HA.out
      clear HA
      simp only [lockkeeperlaw15_CorsOthers.j0] at H
      by_cases c50 : x34_5 = true
      · subst c50
        have H1 : ((lockkeeperlaw15_awake.f kj5).bind fun t174 => (some t174)) = some r := by rw [if_pos rfl] at H; exact H
        clear H
        have H := H1
        clear H1
        replace H := Option.bind_eq_some_iff.mp H
        obtain ⟨t174, A510, H⟩ := H
        replace H : (some t174) = some r := H
        have A51 := Aside0.mk A510
        clear A510
        obtain rfl := Option.some.inj H
        go_wp2_with (first | ((with_reducible refine gate_callee (f := 19) rfl ?_); refine goesL_ (some 35) rfl rfl Try.func19 (by kernel_rfl) rfl #[] rfl (by (try simp only [List.map_toArray, List.map_cons, List.map_nil]); first | done | rfl | (simp only [List.length_drop, List.length_take]; rfl)) ?_; (with_reducible refine (lockkeeperlaw15_awake.calls kj5  t174 _ A51.out).mono ?_); rintro e w52 ⟨rfl, hb⟩; refine ⟨_, rfl, ?_⟩; have n0_ := Aside0.mk (blk_below (g := gb162) (o := .cells #[.string a3_0, .string a3_1] 26 (0, 0)) (by (with_reducible repeat (first | refine blk_drewN ?_ _ | refine blk_drew ?_ | refine blk_alloc ?_ _)); exact BK162.out) hb); have n1_ := Aside0.mk (below_step (by repeat (first | (with_reducible first | exact HB.out | apply below_alloc | apply pw_below_drewN | apply below_drew1 | refine below_set ?_ GE162.out) | exact HB.out)) hb); clear BK162; clear HB; have BK162 := n0_; have HB := n1_; clear n0_ n1_; (try clear hb); (try clear hb2); (try clear hk); (try clear hi)))
        go_ret
        exact ⟨by first | rfl | (simp [errW_none, errW_some] <;> rfl) | (simp [*, errW_none, errW_some] <;> rfl), by repeat (first | (with_reducible first | exact HB.out | apply below_alloc | apply pw_below_drewN | apply below_drew1 | refine below_set ?_ GE162.out) | exact HB.out)⟩
      · replace c50 := Bool.eq_false_iff.mpr c50
        subst c50
        have H1 : ((lockkeeperlaw0_Low.f a4 (wrap64 ((l2.length : Int) + 1))).bind fun t175 => (if 0 ≤ t175 then (if t175 ≤ (l2.length : Int) then ((some (l2.take (t175 : Int).toNat : List (S26))).bind fun y176 => (if ([] : List (S26)).length + y176.length < 4398046511104 then ((some (([] : List (S26)) ++ y176 : List (S26))).bind fun y180 => ((some (([(⟨a3_0, a3_1⟩ : S26)] : List (S26)) : List (S26))).bind fun y183 => (if y180.length + y183.length < 4398046511104 then ((some (y180 ++ y183 : List (S26))).bind fun y186 => ((some (l2.drop (t175 : Int).toNat : List (S26))).bind fun y189 => (if y186.length + y189.length < 4398046511104 then ((cors_Check.f kj5 a0 a1 (y186 ++ y189)).bind fun t196 => ((cors_Check.f kj5 a0 a1 l2).bind fun t197 => (if t196 = t197 then ((lockkeeperlaw15_awake.f kj5).bind fun t198 => (some t198)) else (some false)))) else (none)))) else (none)))) else (none))) else (none)) else (none))) = some r := by rw [if_neg (show ¬ (false = true) by decide)] at H; exact H
        clear H
        have H := H1
        clear H1
        replace H := Option.bind_eq_some_iff.mp H
        obtain ⟨t175, A530, H⟩ := H
        replace H : (if 0 ≤ t175 then (if t175 ≤ (l2.length : Int) then ((some (l2.take (t175 : Int).toNat : List (S26))).bind fun y176 => (if ([] : List (S26)).length + y176.length < 4398046511104 then ((some (([] : List (S26)) ++ y176 : List (S26))).bind fun y180 => ((some (([(⟨a3_0, a3_1⟩ : S26)] : List (S26)) : List (S26))).bind fun y183 => (if y180.length + y183.length < 4398046511104 then ((some (y180 ++ y183 : List (S26))).bind fun y186 => ((some (l2.drop (t175 : Int).toNat : List (S26))).bind fun y189 => (if y186.length + y189.length < 4398046511104 then ((cors_Check.f kj5 a0 a1 (y186 ++ y189)).bind fun t196 => ((cors_Check.f kj5 a0 a1 l2).bind fun t197 => (if t196 = t197 then ((lockkeeperlaw15_awake.f kj5).bind fun t198 => (some t198)) else (some false)))) else (none)))) else (none)))) else (none))) else (none)) else (none)) = some r := H
        have A53 := Aside0.mk A530
        clear A530
        by_cases c54 : 0 ≤ t175
        · rw [if_pos c54] at H
          have c54b0 := eq_true c54
          have c54b1 : decide (0 ≤ t175) = true := decide_eq_true c54
          clear c54
          by_cases c55 : t175 ≤ (l2.length : Int)
          · rw [if_pos c55] at H
            have c55b0 := eq_true c55
            have c55b1 : decide (t175 ≤ (l2.length : Int)) = true := decide_eq_true c55
            clear c55
            obtain ⟨y176, hy176⟩ : ∃ y_ : List (S26), y_ = (l2.take (t175 : Int).toNat) := ⟨_, rfl⟩
            replace H : (if ([] : List (S26)).length + y176.length < 4398046511104 then ((some (([] : List (S26)) ++ y176 : List (S26))).bind fun y180 => ((some (([(⟨a3_0, a3_1⟩ : S26)] : List (S26)) : List (S26))).bind fun y183 => (if y180.length + y183.length < 4398046511104 then ((some (y180 ++ y183 : List (S26))).bind fun y186 => ((some (l2.drop (t175 : Int).toNat : List (S26))).bind fun y189 => (if y186.length + y189.length < 4398046511104 then ((cors_Check.f kj5 a0 a1 (y186 ++ y189)).bind fun t196 => ((cors_Check.f kj5 a0 a1 l2).bind fun t197 => (if t196 = t197 then ((lockkeeperlaw15_awake.f kj5).bind fun t198 => (some t198)) else (some false)))) else (none)))) else (none)))) else (none)) = some r := by first | (rw [hy176]; with_reducible exact H) | (have H2_ := (Option.bind_some _ _).symm.trans H; rw [hy176]; with_reducible exact H2_) | (have H2_ := (Option.bind_some _ _).symm.trans H; with_reducible exact H2_) | with_reducible exact H | (rw [hy176]; exact H) | exact H
            have Ny176 := Aside0.mk hy176
            clear hy176
            by_cases c56 : ([] : List (S26)).length + y176.length < 4398046511104
            · rw [if_pos c56] at H
              have LMc56 := Aside0.mk c56
              clear c56
              obtain ⟨y180, hy180⟩ : ∃ y_ : List (S26), y_ = (([] : List (S26)) ++ y176) := ⟨_, rfl⟩
              replace H : ((some (([(⟨a3_0, a3_1⟩ : S26)] : List (S26)) : List (S26))).bind fun y183 => (if y180.length + y183.length < 4398046511104 then ((some (y180 ++ y183 : List (S26))).bind fun y186 => ((some (l2.drop (t175 : Int).toNat : List (S26))).bind fun y189 => (if y186.length + y189.length < 4398046511104 then ((cors_Check.f kj5 a0 a1 (y186 ++ y189)).bind fun t196 => ((cors_Check.f kj5 a0 a1 l2).bind fun t197 => (if t196 = t197 then ((lockkeeperlaw15_awake.f kj5).bind fun t198 => (some t198)) else (some false)))) else (none)))) else (none))) = some r := by first | (rw [hy180]; with_reducible exact H) | (have H2_ := (Option.bind_some _ _).symm.trans H; rw [hy180]; with_reducible exact H2_) | (have H2_ := (Option.bind_some _ _).symm.trans H; with_reducible exact H2_) | with_reducible exact H | (rw [hy180]; exact H) | exact H
              have Ny180 := Aside0.mk hy180
              clear hy180
              obtain ⟨y183, hy183⟩ : ∃ y_ : List (S26), y_ = (([(⟨a3_0, a3_1⟩ : S26)] : List (S26))) := ⟨_, rfl⟩
              replace H : (if y180.length + y183.length < 4398046511104 then ((some (y180 ++ y183 : List (S26))).bind fun y186 => ((some (l2.drop (t175 : Int).toNat : List (S26))).bind fun y189 => (if y186.length + y189.length < 4398046511104 then ((cors_Check.f kj5 a0 a1 (y186 ++ y189)).bind fun t196 => ((cors_Check.f kj5 a0 a1 l2).bind fun t197 => (if t196 = t197 then ((lockkeeperlaw15_awake.f kj5).bind fun t198 => (some t198)) else (some false)))) else (none)))) else (none)) = some r := by first | (rw [hy183]; with_reducible exact H) | (have H2_ := (Option.bind_some _ _).symm.trans H; rw [hy183]; with_reducible exact H2_) | (have H2_ := (Option.bind_some _ _).symm.trans H; with_reducible exact H2_) | with_reducible exact H | (rw [hy183]; exact H) | exact H
              have Ny183 := Aside0.mk hy183
              clear hy183
              by_cases c57 : y180.length + y183.length < 4398046511104
              · rw [if_pos c57] at H
                have LMc57 := Aside0.mk c57
                clear c57
                obtain ⟨y186, hy186⟩ : ∃ y_ : List (S26), y_ = (y180 ++ y183) := ⟨_, rfl⟩
                replace H : ((some (l2.drop (t175 : Int).toNat : List (S26))).bind fun y189 => (if y186.length + y189.length < 4398046511104 then ((cors_Check.f kj5 a0 a1 (y186 ++ y189)).bind fun t196 => ((cors_Check.f kj5 a0 a1 l2).bind fun t197 => (if t196 = t197 then ((lockkeeperlaw15_awake.f kj5).bind fun t198 => (some t198)) else (some false)))) else (none))) = some r := by first | (rw [hy186]; with_reducible exact H) | (have H2_ := (Option.bind_some _ _).symm.trans H; rw [hy186]; with_reducible exact H2_) | (have H2_ := (Option.bind_some _ _).symm.trans H; with_reducible exact H2_) | with_reducible exact H | (rw [hy186]; exact H) | exact H
                have Ny186 := Aside0.mk hy186
                clear hy186
                have c58b0 := eq_true (of_decide_eq_true (by first | (with_reducible assumption) | assumption) : 0 ≤ t175)
                have c59b0 := eq_true (of_decide_eq_true (by first | (with_reducible assumption) | assumption) : t175 ≤ (l2.length : Int))
                obtain ⟨y189, hy189⟩ : ∃ y_ : List (S26), y_ = (l2.drop (t175 : Int).toNat) := ⟨_, rfl⟩
                replace H : (if y186.length + y189.length < 4398046511104 then ((cors_Check.f kj5 a0 a1 (y186 ++ y189)).bind fun t196 => ((cors_Check.f kj5 a0 a1 l2).bind fun t197 => (if t196 = t197 then ((lockkeeperlaw15_awake.f kj5).bind fun t198 => (some t198)) else (some false)))) else (none)) = some r := by first | (rw [hy189]; with_reducible exact H) | (have H2_ := (Option.bind_some _ _).symm.trans H; rw [hy189]; with_reducible exact H2_) | (have H2_ := (Option.bind_some _ _).symm.trans H; with_reducible exact H2_) | with_reducible exact H | (rw [hy189]; exact H) | exact H
                have Ny189 := Aside0.mk hy189
                clear hy189
                by_cases c60 : y186.length + y189.length < 4398046511104
                · rw [if_pos c60] at H
                  have LMc60 := Aside0.mk c60
                  clear c60
                  obtain ⟨y193, hy193⟩ : ∃ y_ : List (S26), y_ = (y186 ++ y189) := ⟨_, rfl⟩
                  replace H : ((cors_Check.f kj5 a0 a1 y193).bind fun t196 => ((cors_Check.f kj5 a0 a1 l2).bind fun t197 => (if t196 = t197 then ((lockkeeperlaw15_awake.f kj5).bind fun t198 => (some t198)) else (some false)))) = some r := by first | (rw [hy193]; with_reducible exact H) | (have H2_ := (Option.bind_some _ _).symm.trans H; rw [hy193]; with_reducible exact H2_) | (have H2_ := (Option.bind_some _ _).symm.trans H; with_reducible exact H2_) | with_reducible exact H | (rw [hy193]; exact H) | exact H
                  have Ny193 := Aside0.mk hy193
                  clear hy193
                  replace H := Option.bind_eq_some_iff.mp H
                  obtain ⟨t196, A610, H⟩ := H
                  replace H : ((cors_Check.f kj5 a0 a1 l2).bind fun t197 => (if t196 = t197 then ((lockkeeperlaw15_awake.f kj5).bind fun t198 => (some t198)) else (some false))) = some r := H
                  have A61 := Aside0.mk A610
                  clear A610
                  replace H := Option.bind_eq_some_iff.mp H
                  obtain ⟨t197, A620, H⟩ := H
                  replace H : (if t196 = t197 then ((lockkeeperlaw15_awake.f kj5).bind fun t198 => (some t198)) else (some false)) = some r := H
                  have A62 := Aside0.mk A620
                  clear A620
                  by_cases c63 : t196 = t197
                  · rw [if_pos c63] at H
                    have c63b0 : (t196 == t197) = true := beq_iff_eq.mpr c63
                    have c63b1 : (t196 != t197) = false := bne_eq_false_iff_eq.mpr c63
                    clear c63
                    replace H := Option.bind_eq_some_iff.mp H
                    obtain ⟨t198, A640, H⟩ := H
                    replace H : (some t198) = some r := H
                    have A64 := Aside0.mk A640
                    clear A640
                    obtain rfl := Option.some.inj H
                    try go_wp2_with (first | ((with_reducible refine gate_callee (f := 23) rfl ?_); refine goesL_ (some 40) rfl rfl Try.func23 (by kernel_rfl) rfl #[.int .i64 a4, .int .i64 (wrap64 ((l2.length : Int) + 1))] rfl (by (try simp only [List.map_toArray, List.map_cons, List.map_nil]); first | done | rfl | (simp only [List.length_drop, List.length_take]; rfl)) ?_; (with_reducible refine (lockkeeperlaw0_Low.calls a4 (wrap64 ((l2.length : Int) + 1)) t175 _ A53.out).mono ?_); rintro e w' ⟨rfl, ⟨nd, rfl⟩⟩; refine ⟨_, rfl, ?_⟩))
                    (try (rw [drewN_self wc]; generalize hq_ : World.drewN wc _ = wc; have n0_ : Aside0 (wc.heap[gb162]? = some (.cells #[.string a3_0, .string a3_1] 26 (0, 0))) := ⟨by rw [← hq_]; exact (by (with_reducible repeat (first | refine blk_drewN ?_ _ | refine blk_drew ?_ | refine blk_alloc ?_ _)); exact BK162.out)⟩; have n1_ : Aside0 (Below w.heap.size w wc) := ⟨by rw [← hq_]; exact (by repeat (first | (with_reducible first | exact HB.out | apply below_alloc | apply pw_below_drewN | apply below_drew1 | refine below_set ?_ GE162.out) | exact HB.out))⟩; clear BK162 HB hq_; have BK162 := n0_; have HB := n1_; clear n0_ n1_))
                    have n0_ := Aside0.mk (blk_drew BK162.out)
                    have n1_ := Aside0.mk (below_drew1 HB.out)
                    clear BK162
                    clear HB
                    have BK162 := n0_
                    have HB := n1_
                    clear n0_ n1_
                    have q66 : (t175 : Int) ≤ ((l2.length : Int) : Int) := of_decide_eq_true (by first | (with_reducible assumption) | assumption)
                    obtain ⟨i066, hi066, _, hsz66, _⟩ := info_parts info26
                    have hroom66 : l2.length ≤ c2 := HC2.out
                    have hC66 : Kd.C k26 _ A2 l2.length l2 := HR2.out
                    have hcut66 := cut_to (P := Try.prog) 30 26 .i64 Try.underlying30 hi066 A2 l2.length c2 t175 (of_decide_eq_true (by first | (with_reducible assumption) | assumption)) q66 hroom66
                    have hr66 := Kd.C_take (m := (t175 : Int).toNat) hC66 (by omega)
                    have hy66 : y176.length = (t175 : Int).toNat := (by rw [Ny176.out, List.length_take]; omega)
                    rw [← Ny176.out] at hr66
                    rw [← hy66] at hcut66
                    have HR179 := Aside0.mk hr66
                    have HC179 := Aside0.mk (show y176.length ≤ c2 from by omega)
                    clear hr66 hC66 hroom66 hi066 hsz66
                    have KY66 := Aside0.mk hy66
                    clear hy66
                    replace q66 := eq_true q66
                    have q67 : (t175 : Int) ≤ ((l2.length : Int) : Int) := of_decide_eq_true (by first | (with_reducible assumption) | assumption)
                    obtain ⟨i067, hi067, _, hsz67, _⟩ := info_parts info26
                    have hroom67 : l2.length ≤ c2 := HC2.out
                    have hC67 : Kd.C k26 _ A2 l2.length l2 := HR2.out
                    have q067 : (0 : Int) ≤ (t175 : Int) := of_decide_eq_true (by first | (with_reducible assumption) | assumption)
                    have hcut67 := cut_from (P := Try.prog) 30 26 .i64 Try.underlying30 hi067 2 hsz67 A2 l2.length c2 t175 q067 q67
                    have hr67 := Kd.C_drop (m := (t175 : Int).toNat) (c := c2) hC67 (by omega) hroom67
                    obtain ⟨A67, hA67⟩ : ∃ A1, A1 = (if c2 = (t175 : Int).toNat then A2 else (A2 : Option Addr).map (·.add ((t175 : Int).toNat * 2))) := ⟨_, rfl⟩
                    obtain ⟨c67, hc67⟩ : ∃ c1, c1 = c2 - (t175 : Int).toNat := ⟨_, rfl⟩
                    have hy67 : y189.length = l2.length - (t175 : Int).toNat := (by rw [Ny189.out, List.length_drop] <;> omega)
                    rw [show (l2).drop (t175 : Int).toNat = y189 from Ny189.out.symm] at hr67
                    replace hr67 : Kd.C k26 _ A67 y189.length y189 := (by rw [hA67]; exact hr67)
                    rw [← hy67, ← hA67, ← hc67] at hcut67
                    have HR192 := Aside0.mk hr67
                    have HC192 := Aside0.mk (show y189.length ≤ c67 from by rw [hy67, hc67]; exact Nat.sub_le_sub_right hroom67 _)
                    clear hr67 hC67 hroom67 hi067 hsz67 hc67
                    have KY67 := Aside0.mk hy67
                    have KA67 := Aside0.mk hA67
                    clear hy67 hA67
                    replace q67 := eq_true q67
                    refine start_ (n := 12) (S := fun w' => w'.cell? ⟨gb162, 0, none⟩ = some (.string a3_0) ∧ w'.cell? ⟨gb162, 1, none⟩ = some (.string a3_1)) (ds := []) #[false, false, false, false, false, false, false, false, false, false, false, false] (by kernel_rfl) rfl rfl ⟨(blk_cell BK162.out 0).trans rfl, (blk_cell BK162.out 1).trans rfl⟩ (fun hHeld => ?_); refine with_tabW lockkeeperlaw15_CorsOthers.tab4 lockkeeperlaw15_CorsOthers.bits4 (fun HT_ HW_ => ?_)
                    generalize wc.drew = w65 at BK162 HB HR179 HR192 hHeld ⊢
                    refine pure_ (i := 0) (N := some 41) (v := ?_) (a' := ?_) #[true, false, false, false, false, false, false, false, false, false, false, false] rfl rfl (any_of HT_.out (by kernel_rfl)) (fun _ _ _ h => h) (Or.inl ⟨by rfl, ?_⟩) ?_ ?_
                    rotate_left
                    · intro w'
                      go_simp
                      with_reducible rfl
                    rotate_left
                    · simp only [Act.put, List.setIfInBounds_toArray, List.set_cons_zero, List.set_cons_succ, i64_w, i32_w]
                      rfl
                    refine pure_ (i := 1) (N := some 42) (v := ?_) (a' := ?_) #[true, true, false, false, false, false, false, false, false, false, false, false] rfl rfl (any_of HT_.out (by kernel_rfl)) (fun _ _ _ h => h) (Or.inl ⟨by rfl, ?_⟩) ?_ ?_
                    rotate_left
                    · intro w'
                      go_simp
                      with_reducible rfl
                    rotate_left
                    · simp only [Act.put, List.setIfInBounds_toArray, List.set_cons_zero, List.set_cons_succ, i64_w, i32_w]
                      rfl
                    refine pure_ (i := 2) (N := some 43) (v := ?_) (a' := ?_) #[true, true, true, false, false, false, false, false, false, false, false, false] rfl rfl (any_of HT_.out (by kernel_rfl)) (fun _ _ _ h => h) (Or.inl ⟨by rfl, ?_⟩) ?_ ?_
                    rotate_left
                    · intro w'
                      go_simp
                      with_reducible rfl
                    rotate_left
                    · simp only [Act.put, List.setIfInBounds_toArray, List.set_cons_zero, List.set_cons_succ, i64_w, i32_w]
                      rfl
                    refine pure_ (i := 7) (N := some 48) (v := ?_) (a' := ?_) #[true, true, true, false, false, false, false, true, false, false, false, false] rfl rfl (any_of HT_.out (by kernel_rfl)) (fun _ _ _ h => h) (Or.inl ⟨by rfl, ?_⟩) ?_ ?_
                    rotate_left
                    · intro w'
                      go_simp
                      with_reducible rfl
                    rotate_left
                    · simp only [Act.put, List.setIfInBounds_toArray, List.set_cons_zero, List.set_cons_succ, i64_w, i32_w]
                      rfl
                    refine pure_ (i := 8) (N := some 49) (v := ?_) (a' := ?_) #[true, true, true, false, false, false, false, true, true, false, false, false] rfl rfl (any_of HT_.out (by kernel_rfl)) (fun _ _ _ h => h) (Or.inl ⟨by rfl, ?_⟩) ?_ ?_
                    rotate_left
                    · intro w'
                      go_simp
                      with_reducible rfl
                    rotate_left
                    · simp only [Act.put, List.setIfInBounds_toArray, List.set_cons_zero, List.set_cons_succ, i64_w, i32_w]
                      rfl
                    refine pure_ (i := 9) (N := some 50) (v := ?_) (a' := ?_) #[true, true, true, false, false, false, false, true, true, true, false, false] rfl rfl (any_of HT_.out (by kernel_rfl)) (fun _ _ _ h => h) (Or.inl ⟨by rfl, ?_⟩) ?_ ?_
                    rotate_left
                    · intro w'
                      go_simp
                      with_reducible rfl
                    rotate_left
                    · simp only [Act.put, List.setIfInBounds_toArray, List.set_cons_zero, List.set_cons_succ, i64_w, i32_w]
                      rfl
                    refine take_ (i := 4) (N := some 45) (v := ?_) (a' := ?_) #[true, true, true, false, true, false, false, true, true, true, false, false] rfl rfl (take_ofW HT_.out HW_.out (by kernel_rfl)) (fun _ _ _ h => h) (Or.inl ⟨by rfl, ?_⟩) hHeld ?_ ?_
                    rotate_left
                    · rintro w' ⟨s0, s1⟩
                      go_simp
                      with_reducible rfl
                    rotate_left
                    · simp only [Act.put, List.setIfInBounds_toArray, List.set_cons_zero, List.set_cons_succ, i64_w, i32_w]
                      rfl
                    refine join_ (σ := Value × Value) 3 #[true, true, true, true, true, true, false, true, true, true, false, false] (fun s_ => [(44, s_.1), (46, s_.2)]) (fun s_ w' => (w'.cell? ⟨gb162, 0, none⟩ = some (.string a3_0) ∧ w'.cell? ⟨gb162, 1, none⟩ = some (.string a3_1)) ∧ (Kd.R k26 26 w' w.heap.size (fun k_ => some k_ ≠ (s_.2 : Value).ownBlock ∧ k_ ≠ gb162) s_.1 y180) ∧ (Kd.R k26 26 w' w.heap.size (fun k_ => some k_ ≠ (s_.1 : Value).ownBlock ∧ k_ ≠ gb162) s_.2 y183) ∧ (w'.heap[gb162]? = some (.cells #[.string a3_0, .string a3_1] 26 (0, 0))) ∧ (Below w.heap.size w w')) ?_ ?_
                    rotate_left
                    · intro hCont
                      refine two_ (i := 3) (j := 5) (Ni := some 44) (Nj := some 46) #[true, true, true, true, true, false, false, true, true, true, false, false] #[true, true, true, false, true, true, false, true, true, true, false, false] rfl rfl rfl rfl (two_of HT_.out (by kernel_rfl)) (by decide) (by decide) (fun K hK => ?_) (fun K hK => ?_)
                      · skip
                        refine Kd.R_append_rows_step k26 (w0 := w) w.heap.size (by rfl) (.const (.slice none 0 0)) (.tmp 43) 30 26 (.agg #[(.string ⟨#[]⟩), (.string ⟨#[]⟩)]) 32 rfl Try.underlying30 info26 rfl (by decide) (by omega) (.slice none 0 0) ([] : List (S26)) y176 _ _ _ (fun k_ => k_ ≠ gb162) (fun _ => False) rfl rfl ?aO ?aR (fun _ _ h => h) (fun _ h => h.elim) ?aF ?aB ?aS ?aL ?_
                        (case aR => repeat (first | exact (Kd.C_below HR179.out HB.out) | (with_reducible refine Kd.C_alloc ?_ _) | (with_reducible refine Kd.C_drewN ?_ _) | (with_reducible refine Kd.C_drew ?_)))
                        (case aB => exact (by repeat (first | (with_reducible first | exact HB.out | apply below_alloc | apply pw_below_drewN | apply below_drew1 | refine below_set ?_ GE162.out) | exact HB.out)))
                        (case aF => exact (fun k_ hk => Kd.freshB (g := gb162) (o := .cells #[.string a3_0, .string a3_1] 26 (0, 0)) (by (with_reducible repeat (first | refine blk_drewN ?_ _ | refine blk_drew ?_ | refine blk_alloc ?_ _)); exact BK162.out) k_ hk))
                        (case aO => exact ((Kd.R_nil _ _ _ _ (fun k_ => k_ ≠ gb162))))
                        (case aS => exact (below_size (by repeat (first | (with_reducible first | exact HB.out | apply below_alloc | apply pw_below_drewN | apply below_drew1 | refine below_set ?_ GE162.out) | exact HB.out))))
                        (case aL => have := LMc56.out; omega)
                        intro v181 w68 ho hb hg hat
                        rw [← Ny180.out] at ho
                        have n0_ := Aside0.mk (blk_grown (g := gb162) (o := .cells #[.string a3_0, .string a3_1] 26 (0, 0)) (by (with_reducible repeat (first | refine blk_drewN ?_ _ | refine blk_drew ?_ | refine blk_alloc ?_ _)); exact BK162.out) hg (by simp [Value.ownBlock]))
                        have n1_ := Aside0.mk (hb)
                        have n2_ := Aside0.mk (ho)
                        clear BK162
                        clear HB
                        have BK162 := n0_
                        have HB := n1_
                        have HO182 := n2_
                        clear n0_ n1_ n2_
                        clear ho hb hg hat
                        refine hK.out _ _ ⟨(blk_cell BK162.out 0).trans rfl, (blk_cell BK162.out 1).trans rfl⟩ (fun hHeld => ?_)
                        clear hK K
                        refine norm_ (a' := ?_) ?_ ?_
                        rotate_left
                        · show Act.put _ (some 44) _ = _
                          simp only [Act.put, List.setIfInBounds_toArray, List.set_cons_zero, List.set_cons_succ, i64_w, i32_w]
                          rfl
                        refine one_ (i := 5) (N := some 46) #[true, true, true, true, true, true, false, true, true, true, false, false] rfl rfl (one_of HT_.out (by kernel_rfl)) (by decide) (fun K hK => ?_)
                        refine Kd.R_lit_step k26 _ 26 ?hg (N := 46) ?hd (xs := ([(⟨a3_0, a3_1⟩ : S26)] : List (S26))) (inner := [.string a3_0, .string a3_1]) (ok := fun _ => True) (okp := fun _ => True) ?hr ?hp (fun _ hk => hk) trivial (Below.refl _ _) (Nat.le_refl _) (by simp) ?_; (case hd => rfl); (case hg => rfl); (case hr => first | (go_simp; done) | (go_simp; rfl)); (case hp => exact (Reps.c2 (show Kd.M k26 _ _ _ (⟨a3_0, a3_1⟩ : S26) [.string a3_0, .string a3_1] from (k26_mkM _ _ _ (⟨a3_0, a3_1⟩ : S26) )) (Reps.none _ _)))
                        intro v184 w69 ho70 hb hg_ hnew_
                        clear hg_ hnew_
                        (first | rw [← Ny183.out] at ho70 | (simp only [Int.reduceToNat] at ho70; rw [← Ny183.out] at ho70))
                        have n0_ := Aside0.mk (Kd.R_elder' (by (with_reducible repeat (first | apply Kd.R_alloc | apply Kd.R_drewN | apply Kd.R_drew)); exact HO182.out) (Kd.R_base ho70) hb)
                        have n1_ := Aside0.mk (Kd.R_lower (Kd.R_newB (Kd.R_new' ho70 (Kd.R_lt (by (with_reducible repeat (first | apply Kd.R_alloc | apply Kd.R_drewN | apply Kd.R_drew)); exact HO182.out))) (g := gb162) (o := .cells #[.string a3_0, .string a3_1] 26 (0, 0)) (by (with_reducible repeat (first | refine blk_drewN ?_ _ | refine blk_drew ?_ | refine blk_alloc ?_ _)); exact BK162.out)) (below_size (by repeat (first | (with_reducible first | exact HB.out | apply below_alloc | apply pw_below_drewN | apply below_drew1 | refine below_set ?_ GE162.out) | exact HB.out))))
                        have n2_ := Aside0.mk (blk_below (g := gb162) (o := .cells #[.string a3_0, .string a3_1] 26 (0, 0)) (by (with_reducible repeat (first | refine blk_drewN ?_ _ | refine blk_drew ?_ | refine blk_alloc ?_ _)); exact BK162.out) hb)
                        have n3_ := Aside0.mk (below_step (by repeat (first | (with_reducible first | exact HB.out | apply below_alloc | apply pw_below_drewN | apply below_drew1 | refine below_set ?_ GE162.out) | exact HB.out)) hb)
                        clear HO182
                        clear BK162
                        clear HB
                        have HO182 := n0_
                        have HO185 := n1_
                        have BK162 := n2_
                        have HB := n3_
                        clear n0_ n1_ n2_ n3_
                        clear hb ho70
                        refine hK.out _ _ ⟨(blk_cell BK162.out 0).trans rfl, (blk_cell BK162.out 1).trans rfl⟩ (fun hHeld => ?_)
                        clear hK K
                        refine norm_ (a' := ?_) ?_ ?_
                        rotate_left
                        · show Act.put _ (some 46) _ = _
                          simp only [Act.put, List.setIfInBounds_toArray, List.set_cons_zero, List.set_cons_succ, i64_w, i32_w]
                          rfl
                        exact norm_ (by simp only [putAll, Act.put, List.setIfInBounds_toArray, List.set_cons_zero, List.set_cons_succ]) (hCont (v181, v184) _ ⟨hHeld, (by (with_reducible repeat (first | apply Kd.R_alloc | apply Kd.R_drewN | apply Kd.R_drew)); exact Kd.R_mono HO182.out (fun _ hk => ⟨hk.2, hk.1⟩)), (by (with_reducible repeat (first | apply Kd.R_alloc | apply Kd.R_drewN | apply Kd.R_drew)); exact Kd.R_mono HO185.out (fun _ hk => ⟨hk.1.2, hk.2⟩)), (by (with_reducible repeat (first | refine blk_drewN ?_ _ | refine blk_drew ?_ | refine blk_alloc ?_ _)); exact BK162.out), (by repeat (first | (with_reducible first | exact HB.out | apply below_alloc | apply pw_below_drewN | apply below_drew1 | refine below_set ?_ GE162.out) | exact HB.out))⟩)
                      · skip
                        refine Kd.R_lit_step k26 _ 26 ?hg (N := 46) ?hd (xs := ([(⟨a3_0, a3_1⟩ : S26)] : List (S26))) (inner := [.string a3_0, .string a3_1]) (ok := fun _ => True) (okp := fun _ => True) ?hr ?hp (fun _ hk => hk) trivial (Below.refl _ _) (Nat.le_refl _) (by simp) ?_; (case hd => rfl); (case hg => rfl); (case hr => first | (go_simp; done) | (go_simp; rfl)); (case hp => exact (Reps.c2 (show Kd.M k26 _ _ _ (⟨a3_0, a3_1⟩ : S26) [.string a3_0, .string a3_1] from (k26_mkM _ _ _ (⟨a3_0, a3_1⟩ : S26) )) (Reps.none _ _)))
                        intro v184 w68 ho69 hb hg_ hnew_
                        clear hg_ hnew_
                        (first | rw [← Ny183.out] at ho69 | (simp only [Int.reduceToNat] at ho69; rw [← Ny183.out] at ho69))
                        have n0_ := Aside0.mk (Kd.R_lower (Kd.R_newB ho69 (g := gb162) (o := .cells #[.string a3_0, .string a3_1] 26 (0, 0)) (by (with_reducible repeat (first | refine blk_drewN ?_ _ | refine blk_drew ?_ | refine blk_alloc ?_ _)); exact BK162.out)) (below_size (by repeat (first | (with_reducible first | exact HB.out | apply below_alloc | apply pw_below_drewN | apply below_drew1 | refine below_set ?_ GE162.out) | exact HB.out))))
                        have n1_ := Aside0.mk (blk_below (g := gb162) (o := .cells #[.string a3_0, .string a3_1] 26 (0, 0)) (by (with_reducible repeat (first | refine blk_drewN ?_ _ | refine blk_drew ?_ | refine blk_alloc ?_ _)); exact BK162.out) hb)
                        have n2_ := Aside0.mk (below_step (by repeat (first | (with_reducible first | exact HB.out | apply below_alloc | apply pw_below_drewN | apply below_drew1 | refine below_set ?_ GE162.out) | exact HB.out)) hb)
                        clear BK162
                        clear HB
                        have HO185 := n0_
                        have BK162 := n1_
                        have HB := n2_
                        clear n0_ n1_ n2_
                        clear hb ho69
                        refine hK.out _ _ ⟨(blk_cell BK162.out 0).trans rfl, (blk_cell BK162.out 1).trans rfl⟩ (fun hHeld => ?_)
                        clear hK K
                        refine norm_ (a' := ?_) ?_ ?_
                        rotate_left
                        · show Act.put _ (some 46) _ = _
                          simp only [Act.put, List.setIfInBounds_toArray, List.set_cons_zero, List.set_cons_succ, i64_w, i32_w]
                          rfl
                        refine one_ (i := 3) (N := some 44) #[true, true, true, true, true, true, false, true, true, true, false, false] rfl rfl (one_of HT_.out (by kernel_rfl)) (by decide) (fun K hK => ?_)
                        refine Kd.R_append_rows_step k26 (w0 := w) w.heap.size (by rfl) (.const (.slice none 0 0)) (.tmp 43) 30 26 (.agg #[(.string ⟨#[]⟩), (.string ⟨#[]⟩)]) 32 rfl Try.underlying30 info26 rfl (by decide) (by omega) (.slice none 0 0) ([] : List (S26)) y176 _ _ _ (fun k_ => some k_ ≠ (v184 : Value).ownBlock ∧ k_ ≠ gb162) (fun _ => False) rfl rfl ?aO ?aR (fun _ _ h => h) (fun _ h => h.elim) ?aF ?aB ?aS ?aL ?_
                        (case aR => repeat (first | exact (Kd.C_below HR179.out HB.out) | (with_reducible refine Kd.C_alloc ?_ _) | (with_reducible refine Kd.C_drewN ?_ _) | (with_reducible refine Kd.C_drew ?_)))
                        (case aB => exact (by repeat (first | (with_reducible first | exact HB.out | apply below_alloc | apply pw_below_drewN | apply below_drew1 | refine below_set ?_ GE162.out) | exact HB.out)))
                        (case aF => exact (fun k_ hk => ⟨Kd.fresh' (Kd.R_lt (by (with_reducible repeat (first | apply Kd.R_alloc | apply Kd.R_drewN | apply Kd.R_drew)); exact HO185.out)) k_ hk, Kd.freshB (g := gb162) (o := .cells #[.string a3_0, .string a3_1] 26 (0, 0)) (by (with_reducible repeat (first | refine blk_drewN ?_ _ | refine blk_drew ?_ | refine blk_alloc ?_ _)); exact BK162.out) k_ hk⟩))
                        (case aO => exact ((Kd.R_nil _ _ _ _ (fun k_ => some k_ ≠ (v184 : Value).ownBlock ∧ k_ ≠ gb162))))
                        (case aS => exact (below_size (by repeat (first | (with_reducible first | exact HB.out | apply below_alloc | apply pw_below_drewN | apply below_drew1 | refine below_set ?_ GE162.out) | exact HB.out))))
                        (case aL => have := LMc56.out; omega)
                        intro v181 w70 ho hb hg hat
                        rw [← Ny180.out] at ho
                        have n0_ := Aside0.mk (blk_grown (g := gb162) (o := .cells #[.string a3_0, .string a3_1] 26 (0, 0)) (by (with_reducible repeat (first | refine blk_drewN ?_ _ | refine blk_drew ?_ | refine blk_alloc ?_ _)); exact BK162.out) hg (by simp [Value.ownBlock]))
                        have n1_ := Aside0.mk (Kd.R_after (Kd.R_apart_nil (by (with_reducible repeat (first | apply Kd.R_alloc | apply Kd.R_drewN | apply Kd.R_drew)); exact HO185.out)) hg hat)
                        have n2_ := Aside0.mk (hb)
                        have n3_ := Aside0.mk (ho)
                        clear BK162
                        clear HO185
                        clear HB
                        have BK162 := n0_
                        have HO185 := n1_
                        have HB := n2_
                        have HO182 := n3_
                        clear n0_ n1_ n2_ n3_
                        clear ho hb hg hat
                        refine hK.out _ _ ⟨(blk_cell BK162.out 0).trans rfl, (blk_cell BK162.out 1).trans rfl⟩ (fun hHeld => ?_)
                        clear hK K
                        refine norm_ (a' := ?_) ?_ ?_
                        rotate_left
                        · show Act.put _ (some 44) _ = _
                          simp only [Act.put, List.setIfInBounds_toArray, List.set_cons_zero, List.set_cons_succ, i64_w, i32_w]
                          rfl
                        exact norm_ (by simp only [putAll, Act.put, List.setIfInBounds_toArray, List.set_cons_zero, List.set_cons_succ]) (hCont (v181, v184) _ ⟨hHeld, (by (with_reducible repeat (first | apply Kd.R_alloc | apply Kd.R_drewN | apply Kd.R_drew)); exact HO182.out), (by (with_reducible repeat (first | apply Kd.R_alloc | apply Kd.R_drewN | apply Kd.R_drew)); exact Kd.R_mono HO185.out (fun _ hk => ⟨hk.2, hk.1.2⟩)), (by (with_reducible repeat (first | refine blk_drewN ?_ _ | refine blk_drew ?_ | refine blk_alloc ?_ _)); exact BK162.out), (by repeat (first | (with_reducible first | exact HB.out | apply below_alloc | apply pw_below_drewN | apply below_drew1 | refine below_set ?_ GE162.out) | exact HB.out))⟩)
                    rintro ⟨v181, v184⟩ w71 ⟨hS_, h0_, h1_, h2_, h3_⟩
                    have n0_ : Aside0 (Kd.R k26 26 w71 w.heap.size (fun k_ => some k_ ≠ (v184 : Value).ownBlock ∧ k_ ≠ gb162) v181 y180) := ⟨h0_⟩
                    have n1_ : Aside0 (Kd.R k26 26 w71 w.heap.size (fun k_ => some k_ ≠ (v181 : Value).ownBlock ∧ k_ ≠ gb162) v184 y183) := ⟨h1_⟩
                    have n2_ : Aside0 (w71.heap[gb162]? = some (.cells #[.string a3_0, .string a3_1] 26 (0, 0))) := ⟨h2_⟩
                    have n3_ : Aside0 (Below w.heap.size w w71) := ⟨h3_⟩
                    clear BK162
                    clear HB
                    clear h0_ h1_ h2_ h3_
                    have HO182 := n0_
                    have HO185 := n1_
                    have BK162 := n2_
                    have HB := n3_
                    clear n0_ n1_ n2_ n3_
                    have hHeld : w71.cell? ⟨gb162, 0, none⟩ = some (.string a3_0) ∧ w71.cell? ⟨gb162, 1, none⟩ = some (.string a3_1) := hS_
                    obtain ⟨Ao73, co73, eo73⟩ := Kd.R_slice HO185.out
                    (first | subst eo73 | (injection eo73 with f1_ f2_ f3_; have f4_ := f1_.symm; have f5_ := f3_.symm; clear f1_ f2_ f3_; subst f4_; subst f5_))
                    refine norm_ (a' := ?_) ?_ ?_
                    rotate_left
                    · simp only [putAll, Act.put, List.setIfInBounds_toArray, List.set_cons_zero, List.set_cons_succ]
                      rfl
                    refine one_ (i := 6) (N := some 47) #[true, true, true, true, true, true, true, true, true, true, false, false] rfl rfl (one_of HT_.out (by kernel_rfl)) (by decide) (fun K hK => ?_)
                    refine Kd.R_append_rows_step k26 (w0 := w) w.heap.size (by rfl) (.tmp 44) (.tmp 46) 30 26 (.agg #[(.string ⟨#[]⟩), (.string ⟨#[]⟩)]) 32 rfl Try.underlying30 info26 rfl (by decide) (by omega) v181 y180 y183 _ _ _ (fun k_ => some k_ ≠ (.slice Ao73 y183.length co73 : Value).ownBlock ∧ k_ ≠ gb162) (fun _ => False) rfl rfl ?aO ?aR (fun _ _ h => h) (fun _ h => h.elim) ?aF ?aB ?aS ?aL ?_
                    (case aR => repeat (first | exact (Kd.R_reads' HO185.out).2.2 | (with_reducible refine Kd.C_alloc ?_ _) | (with_reducible refine Kd.C_drewN ?_ _) | (with_reducible refine Kd.C_drew ?_)))
                    (case aB => exact (by repeat (first | (with_reducible first | exact HB.out | apply below_alloc | apply pw_below_drewN | apply below_drew1 | refine below_set ?_ GE162.out) | exact HB.out)))
                    (case aF => exact (fun k_ hk => ⟨Kd.fresh' (Kd.R_lt (by (with_reducible repeat (first | apply Kd.R_alloc | apply Kd.R_drewN | apply Kd.R_drew)); exact HO185.out)) k_ hk, Kd.freshB (g := gb162) (o := .cells #[.string a3_0, .string a3_1] 26 (0, 0)) (by (with_reducible repeat (first | refine blk_drewN ?_ _ | refine blk_drew ?_ | refine blk_alloc ?_ _)); exact BK162.out) k_ hk⟩))
                    (case aO => exact (by (with_reducible repeat (first | apply Kd.R_alloc | apply Kd.R_drewN | apply Kd.R_drew)); exact HO182.out))
                    (case aS => exact (below_size (by repeat (first | (with_reducible first | exact HB.out | apply below_alloc | apply pw_below_drewN | apply below_drew1 | refine below_set ?_ GE162.out) | exact HB.out))))
                    (case aL => have := LMc57.out; omega)
                    intro v187 w72 ho hb hg hat
                    rw [← Ny186.out] at ho
                    have n0_ := Aside0.mk (blk_grown (g := gb162) (o := .cells #[.string a3_0, .string a3_1] 26 (0, 0)) (by (with_reducible repeat (first | refine blk_drewN ?_ _ | refine blk_drew ?_ | refine blk_alloc ?_ _)); exact BK162.out) hg (Kd.R_away HO182.out (fun _ hk => hk.2)))
                    have n1_ := Aside0.mk (Kd.R_after (ok := (fun k_ => k_ ≠ gb162)) (by (with_reducible repeat (first | apply Kd.R_alloc | apply Kd.R_drewN | apply Kd.R_drew)); exact Kd.R_mono HO185.out (fun _ hk => ⟨hk.2, hk.1⟩)) hg hat)
                    have n2_ := Aside0.mk (hb)
                    have n3_ := Aside0.mk (ho)
                    clear BK162
                    clear HO185
                    clear HB
                    clear HO182
                    have BK162 := n0_
                    have HO185 := n1_
                    have HB := n2_
                    have HO188 := n3_
                    clear n0_ n1_ n2_ n3_
                    clear ho hb hg hat
                    refine hK.out _ _ ⟨(blk_cell BK162.out 0).trans rfl, (blk_cell BK162.out 1).trans rfl⟩ (fun hHeld => ?_)
                    clear hK K
                    refine norm_ (a' := ?_) ?_ ?_
                    rotate_left
                    · show Act.put _ (some 47) _ = _
                      simp only [Act.put, List.setIfInBounds_toArray, List.set_cons_zero, List.set_cons_succ, i64_w, i32_w]
                      rfl
                    refine one_ (i := 10) (N := some 51) #[true, true, true, true, true, true, true, true, true, true, true, false] rfl rfl (one_of HT_.out (by kernel_rfl)) (by decide) (fun K hK => ?_)
                    refine Kd.R_append_rows_step k26 (w0 := w) w.heap.size (by rfl) (.tmp 47) (.tmp 50) 30 26 (.agg #[(.string ⟨#[]⟩), (.string ⟨#[]⟩)]) 32 rfl Try.underlying30 info26 rfl (by decide) (by omega) v187 y186 y189 _ _ _ (fun k_ => some k_ ≠ (.slice Ao73 y183.length co73 : Value).ownBlock ∧ k_ ≠ gb162) (fun _ => False) rfl rfl ?aO ?aR (fun _ _ h => h) (fun _ h => h.elim) ?aF ?aB ?aS ?aL ?_
                    (case aR => repeat (first | exact (Kd.C_below HR192.out HB.out) | (with_reducible refine Kd.C_alloc ?_ _) | (with_reducible refine Kd.C_drewN ?_ _) | (with_reducible refine Kd.C_drew ?_)))
                    (case aB => exact (by repeat (first | (with_reducible first | exact HB.out | apply below_alloc | apply pw_below_drewN | apply below_drew1 | refine below_set ?_ GE162.out) | exact HB.out)))
                    (case aF => exact (fun k_ hk => ⟨Kd.fresh' (Kd.R_lt (by (with_reducible repeat (first | apply Kd.R_alloc | apply Kd.R_drewN | apply Kd.R_drew)); exact HO185.out)) k_ hk, Kd.freshB (g := gb162) (o := .cells #[.string a3_0, .string a3_1] 26 (0, 0)) (by (with_reducible repeat (first | refine blk_drewN ?_ _ | refine blk_drew ?_ | refine blk_alloc ?_ _)); exact BK162.out) k_ hk⟩))
                    (case aO => exact (by (with_reducible repeat (first | apply Kd.R_alloc | apply Kd.R_drewN | apply Kd.R_drew)); exact HO188.out))
                    (case aS => exact (below_size (by repeat (first | (with_reducible first | exact HB.out | apply below_alloc | apply pw_below_drewN | apply below_drew1 | refine below_set ?_ GE162.out) | exact HB.out))))
                    (case aL => have := LMc60.out; omega)
                    intro v194 w74 ho hb hg hat
                    rw [← Ny193.out] at ho
                    have n0_ := Aside0.mk (blk_grown (g := gb162) (o := .cells #[.string a3_0, .string a3_1] 26 (0, 0)) (by (with_reducible repeat (first | refine blk_drewN ?_ _ | refine blk_drew ?_ | refine blk_alloc ?_ _)); exact BK162.out) hg (Kd.R_away HO188.out (fun _ hk => hk.2)))
                    have n1_ := Aside0.mk (Kd.R_after (ok := (fun k_ => k_ ≠ gb162)) (by (with_reducible repeat (first | apply Kd.R_alloc | apply Kd.R_drewN | apply Kd.R_drew)); exact HO185.out) hg hat)
                    have n2_ := Aside0.mk (hb)
                    have n3_ := Aside0.mk (ho)
                    clear BK162
                    clear HO185
                    clear HB
                    clear HO188
                    have BK162 := n0_
                    have HO185 := n1_
                    have HB := n2_
                    have HO195 := n3_
                    clear n0_ n1_ n2_ n3_
                    clear ho hb hg hat
                    refine hK.out _ _ ⟨(blk_cell BK162.out 0).trans rfl, (blk_cell BK162.out 1).trans rfl⟩ (fun hHeld => ?_)
                    clear hK K
                    refine norm_ (a' := ?_) ?_ ?_
                    rotate_left
                    · show Act.put _ (some 51) _ = _
                      simp only [Act.put, List.setIfInBounds_toArray, List.set_cons_zero, List.set_cons_succ, i64_w, i32_w]
                      rfl
                    refine pure_ (i := 11) (N := some 12) (v := ?_) (a' := ?_) #[true, true, true, true, true, true, true, true, true, true, true, true] rfl rfl (any_of HT_.out (by kernel_rfl)) (fun _ _ _ h => h) (Or.inl ⟨by rfl, ?_⟩) ?_ ?_
                    rotate_left
                    · intro w'
                      go_simp
                      with_reducible rfl
                    rotate_left
                    · simp only [Act.put, List.setIfInBounds_toArray, List.set_cons_zero, List.set_cons_succ, i64_w, i32_w]
                      rfl
                    refine done_ (done_of HT_.out (by kernel_rfl)) ?_
                    obtain ⟨Ao75, co75, eo75⟩ := Kd.R_slice HO195.out
                    subst eo75
                    try go_wp2_with (first | ((with_reducible refine gate_callee (f := 20) rfl ?_); refine goesL_ (some 55) rfl rfl Try.func20 (by kernel_rfl) rfl #[.string a0, .bool a1, .slice Ao75 y193.length co75] rfl (by (try simp only [List.map_toArray, List.map_cons, List.map_nil]); first | done | rfl | (simp only [List.length_drop, List.length_take]; rfl)) ?_; (with_reducible refine (cors_Check.calls kj5 a0 a1 _ _ y193 t196 _ ?side1 ?side2 A61.out).mono ?_); (case side1 => repeat (first | exact (Kd.R_reads' HO195.out).2.2 | (with_reducible refine Kd.C_alloc ?_ _) | (with_reducible refine Kd.C_drewN ?_ _) | (with_reducible refine Kd.C_drew ?_))); (case side2 => exact (Kd.R_reads' HO195.out).2.1); rintro e w76 ⟨rfl, hb⟩; refine ⟨_, rfl, ?_⟩; have n0_ := Aside0.mk (Kd.R_below (by (with_reducible repeat (first | apply Kd.R_alloc | apply Kd.R_drewN | apply Kd.R_drew)); exact HO185.out) hb); have n1_ := Aside0.mk (Kd.R_below (by (with_reducible repeat (first | apply Kd.R_alloc | apply Kd.R_drewN | apply Kd.R_drew)); exact HO195.out) hb); have n2_ := Aside0.mk (blk_below (g := gb162) (o := .cells #[.string a3_0, .string a3_1] 26 (0, 0)) (by (with_reducible repeat (first | refine blk_drewN ?_ _ | refine blk_drew ?_ | refine blk_alloc ?_ _)); exact BK162.out) hb); have n3_ := Aside0.mk (below_step (by repeat (first | (with_reducible first | exact HB.out | apply below_alloc | apply pw_below_drewN | apply below_drew1 | refine below_set ?_ GE162.out) | exact HB.out)) hb); clear HO185; clear HO195; clear BK162; clear HB; have HO185 := n0_; have HO195 := n1_; have BK162 := n2_; have HB := n3_; clear n0_ n1_ n2_ n3_; (try clear hb); (try clear hb2); (try clear hk); (try clear hi)) | ((with_reducible refine gate_callee (f := 20) rfl ?_); refine goesL_ (some 59) rfl rfl Try.func20 (by kernel_rfl) rfl #[.string a0, .bool a1, .slice A2 l2.length c2] rfl (by (try simp only [List.map_toArray, List.map_cons, List.map_nil]); first | done | rfl | (simp only [List.length_drop, List.length_take]; rfl)) ?_; (with_reducible refine (cors_Check.calls kj5 a0 a1 _ _ l2 t197 _ ?side1 ?side2 A62.out).mono ?_); (case side1 => repeat (first | exact (Kd.C_below HR2.out HB.out) | (with_reducible refine Kd.C_alloc ?_ _) | (with_reducible refine Kd.C_drewN ?_ _) | (with_reducible refine Kd.C_drew ?_))); (case side2 => exact HC2.out); rintro e w77 ⟨rfl, hb⟩; refine ⟨_, rfl, ?_⟩; have n0_ := Aside0.mk (Kd.R_below (by (with_reducible repeat (first | apply Kd.R_alloc | apply Kd.R_drewN | apply Kd.R_drew)); exact HO185.out) hb); have n1_ := Aside0.mk (Kd.R_below (by (with_reducible repeat (first | apply Kd.R_alloc | apply Kd.R_drewN | apply Kd.R_drew)); exact HO195.out) hb); have n2_ := Aside0.mk (blk_below (g := gb162) (o := .cells #[.string a3_0, .string a3_1] 26 (0, 0)) (by (with_reducible repeat (first | refine blk_drewN ?_ _ | refine blk_drew ?_ | refine blk_alloc ?_ _)); exact BK162.out) hb); have n3_ := Aside0.mk (below_step (by repeat (first | (with_reducible first | exact HB.out | apply below_alloc | apply pw_below_drewN | apply below_drew1 | refine below_set ?_ GE162.out) | exact HB.out)) hb); clear HO185; clear HO195; clear BK162; clear HB; have HO185 := n0_; have HO195 := n1_; have BK162 := n2_; have HB := n3_; clear n0_ n1_ n2_ n3_; (try clear hb); (try clear hb2); (try clear hk); (try clear hi)) | (go_at_call 19; (with_reducible refine (lockkeeperlaw15_awake.calls kj5  t198 _ A64.out).mono ?_); rintro e w78 ⟨rfl, hb⟩; have n0_ := Aside0.mk (Kd.R_below (by (with_reducible repeat (first | apply Kd.R_alloc | apply Kd.R_drewN | apply Kd.R_drew)); exact HO185.out) hb); have n1_ := Aside0.mk (Kd.R_below (by (with_reducible repeat (first | apply Kd.R_alloc | apply Kd.R_drewN | apply Kd.R_drew)); exact HO195.out) hb); have n2_ := Aside0.mk (blk_below (g := gb162) (o := .cells #[.string a3_0, .string a3_1] 26 (0, 0)) (by (with_reducible repeat (first | refine blk_drewN ?_ _ | refine blk_drew ?_ | refine blk_alloc ?_ _)); exact BK162.out) hb); have n3_ := Aside0.mk (below_step (by repeat (first | (with_reducible first | exact HB.out | apply below_alloc | apply pw_below_drewN | apply below_drew1 | refine below_set ?_ GE162.out) | exact HB.out)) hb); clear HO185; clear HO195; clear BK162; clear HB; have HO185 := n0_; have HO195 := n1_; have BK162 := n2_; have HB := n3_; clear n0_ n1_ n2_ n3_; (try clear hb); (try clear hb2); (try clear hk); (try clear hi)))
                    go_ret
                    exact ⟨by first | rfl | (simp [errW_none, errW_some] <;> rfl) | (simp [*, errW_none, errW_some] <;> rfl), by repeat (first | (with_reducible first | exact HB.out | apply below_alloc | apply pw_below_drewN | apply below_drew1 | refine below_set ?_ GE162.out) | exact HB.out)⟩
                  · rw [if_neg c63] at H
                    have c63b0 : (t196 == t197) = false := beq_eq_false_iff_ne.mpr c63
                    have c63b1 : (t196 != t197) = true := bne_iff_ne.mpr c63
                    obtain rfl := Option.some.inj H
                    try go_wp2_with (first | ((with_reducible refine gate_callee (f := 23) rfl ?_); refine goesL_ (some 40) rfl rfl Try.func23 (by kernel_rfl) rfl #[.int .i64 a4, .int .i64 (wrap64 ((l2.length : Int) + 1))] rfl (by (try simp only [List.map_toArray, List.map_cons, List.map_nil]); first | done | rfl | (simp only [List.length_drop, List.length_take]; rfl)) ?_; (with_reducible refine (lockkeeperlaw0_Low.calls a4 (wrap64 ((l2.length : Int) + 1)) t175 _ A53.out).mono ?_); rintro e w' ⟨rfl, ⟨nd, rfl⟩⟩; refine ⟨_, rfl, ?_⟩))
                    (try (rw [drewN_self wc]; generalize hq_ : World.drewN wc _ = wc; have n0_ : Aside0 (wc.heap[gb162]? = some (.cells #[.string a3_0, .string a3_1] 26 (0, 0))) := ⟨by rw [← hq_]; exact (by (with_reducible repeat (first | refine blk_drewN ?_ _ | refine blk_drew ?_ | refine blk_alloc ?_ _)); exact BK162.out)⟩; have n1_ : Aside0 (Below w.heap.size w wc) := ⟨by rw [← hq_]; exact (by repeat (first | (with_reducible first | exact HB.out | apply below_alloc | apply pw_below_drewN | apply below_drew1 | refine below_set ?_ GE162.out) | exact HB.out))⟩; clear BK162 HB hq_; have BK162 := n0_; have HB := n1_; clear n0_ n1_))
                    have n0_ := Aside0.mk (blk_drew BK162.out)
                    have n1_ := Aside0.mk (below_drew1 HB.out)
                    clear BK162
                    clear HB
                    have BK162 := n0_
                    have HB := n1_
                    clear n0_ n1_
                    have q80 : (t175 : Int) ≤ ((l2.length : Int) : Int) := of_decide_eq_true (by first | (with_reducible assumption) | assumption)
                    obtain ⟨i080, hi080, _, hsz80, _⟩ := info_parts info26
                    have hroom80 : l2.length ≤ c2 := HC2.out
                    have hC80 : Kd.C k26 _ A2 l2.length l2 := HR2.out
                    have hcut80 := cut_to (P := Try.prog) 30 26 .i64 Try.underlying30 hi080 A2 l2.length c2 t175 (of_decide_eq_true (by first | (with_reducible assumption) | assumption)) q80 hroom80
                    have hr80 := Kd.C_take (m := (t175 : Int).toNat) hC80 (by omega)
                    have hy80 : y176.length = (t175 : Int).toNat := (by rw [Ny176.out, List.length_take]; omega)
                    rw [← Ny176.out] at hr80
                    rw [← hy80] at hcut80
                    have HR179 := Aside0.mk hr80
                    have HC179 := Aside0.mk (show y176.length ≤ c2 from by omega)
                    clear hr80 hC80 hroom80 hi080 hsz80
                    have KY80 := Aside0.mk hy80
                    clear hy80
                    replace q80 := eq_true q80
                    have q81 : (t175 : Int) ≤ ((l2.length : Int) : Int) := of_decide_eq_true (by first | (with_reducible assumption) | assumption)
                    obtain ⟨i081, hi081, _, hsz81, _⟩ := info_parts info26
                    have hroom81 : l2.length ≤ c2 := HC2.out
                    have hC81 : Kd.C k26 _ A2 l2.length l2 := HR2.out
                    have q081 : (0 : Int) ≤ (t175 : Int) := of_decide_eq_true (by first | (with_reducible assumption) | assumption)
                    have hcut81 := cut_from (P := Try.prog) 30 26 .i64 Try.underlying30 hi081 2 hsz81 A2 l2.length c2 t175 q081 q81
                    have hr81 := Kd.C_drop (m := (t175 : Int).toNat) (c := c2) hC81 (by omega) hroom81
                    obtain ⟨A81, hA81⟩ : ∃ A1, A1 = (if c2 = (t175 : Int).toNat then A2 else (A2 : Option Addr).map (·.add ((t175 : Int).toNat * 2))) := ⟨_, rfl⟩
                    obtain ⟨c81, hc81⟩ : ∃ c1, c1 = c2 - (t175 : Int).toNat := ⟨_, rfl⟩
                    have hy81 : y189.length = l2.length - (t175 : Int).toNat := (by rw [Ny189.out, List.length_drop] <;> omega)
                    rw [show (l2).drop (t175 : Int).toNat = y189 from Ny189.out.symm] at hr81
                    replace hr81 : Kd.C k26 _ A81 y189.length y189 := (by rw [hA81]; exact hr81)
                    rw [← hy81, ← hA81, ← hc81] at hcut81
                    have HR192 := Aside0.mk hr81
                    have HC192 := Aside0.mk (show y189.length ≤ c81 from by rw [hy81, hc81]; exact Nat.sub_le_sub_right hroom81 _)
                    clear hr81 hC81 hroom81 hi081 hsz81 hc81
                    have KY81 := Aside0.mk hy81
                    have KA81 := Aside0.mk hA81
                    clear hy81 hA81
                    replace q81 := eq_true q81
                    refine start_ (n := 12) (S := fun w' => w'.cell? ⟨gb162, 0, none⟩ = some (.string a3_0) ∧ w'.cell? ⟨gb162, 1, none⟩ = some (.string a3_1)) (ds := []) #[false, false, false, false, false, false, false, false, false, false, false, false] (by kernel_rfl) rfl rfl ⟨(blk_cell BK162.out 0).trans rfl, (blk_cell BK162.out 1).trans rfl⟩ (fun hHeld => ?_); refine with_tabW lockkeeperlaw15_CorsOthers.tab4 lockkeeperlaw15_CorsOthers.bits4 (fun HT_ HW_ => ?_)
                    generalize wc.drew = w79 at BK162 HB HR179 HR192 hHeld ⊢
                    refine pure_ (i := 0) (N := some 41) (v := ?_) (a' := ?_) #[true, false, false, false, false, false, false, false, false, false, false, false] rfl rfl (any_of HT_.out (by kernel_rfl)) (fun _ _ _ h => h) (Or.inl ⟨by rfl, ?_⟩) ?_ ?_
                    rotate_left
                    · intro w'
                      go_simp
                      with_reducible rfl
                    rotate_left
                    · simp only [Act.put, List.setIfInBounds_toArray, List.set_cons_zero, List.set_cons_succ, i64_w, i32_w]
                      rfl
                    refine pure_ (i := 1) (N := some 42) (v := ?_) (a' := ?_) #[true, true, false, false, false, false, false, false, false, false, false, false] rfl rfl (any_of HT_.out (by kernel_rfl)) (fun _ _ _ h => h) (Or.inl ⟨by rfl, ?_⟩) ?_ ?_
                    rotate_left
                    · intro w'
                      go_simp
                      with_reducible rfl
                    rotate_left
                    · simp only [Act.put, List.setIfInBounds_toArray, List.set_cons_zero, List.set_cons_succ, i64_w, i32_w]
                      rfl
                    refine pure_ (i := 2) (N := some 43) (v := ?_) (a' := ?_) #[true, true, true, false, false, false, false, false, false, false, false, false] rfl rfl (any_of HT_.out (by kernel_rfl)) (fun _ _ _ h => h) (Or.inl ⟨by rfl, ?_⟩) ?_ ?_
                    rotate_left
                    · intro w'
                      go_simp
                      with_reducible rfl
                    rotate_left
                    · simp only [Act.put, List.setIfInBounds_toArray, List.set_cons_zero, List.set_cons_succ, i64_w, i32_w]
                      rfl
                    refine pure_ (i := 7) (N := some 48) (v := ?_) (a' := ?_) #[true, true, true, false, false, false, false, true, false, false, false, false] rfl rfl (any_of HT_.out (by kernel_rfl)) (fun _ _ _ h => h) (Or.inl ⟨by rfl, ?_⟩) ?_ ?_
                    rotate_left
                    · intro w'
                      go_simp
                      with_reducible rfl
                    rotate_left
                    · simp only [Act.put, List.setIfInBounds_toArray, List.set_cons_zero, List.set_cons_succ, i64_w, i32_w]
                      rfl
                    refine pure_ (i := 8) (N := some 49) (v := ?_) (a' := ?_) #[true, true, true, false, false, false, false, true, true, false, false, false] rfl rfl (any_of HT_.out (by kernel_rfl)) (fun _ _ _ h => h) (Or.inl ⟨by rfl, ?_⟩) ?_ ?_
                    rotate_left
                    · intro w'
                      go_simp
                      with_reducible rfl
                    rotate_left
                    · simp only [Act.put, List.setIfInBounds_toArray, List.set_cons_zero, List.set_cons_succ, i64_w, i32_w]
                      rfl
                    refine pure_ (i := 9) (N := some 50) (v := ?_) (a' := ?_) #[true, true, true, false, false, false, false, true, true, true, false, false] rfl rfl (any_of HT_.out (by kernel_rfl)) (fun _ _ _ h => h) (Or.inl ⟨by rfl, ?_⟩) ?_ ?_
                    rotate_left
                    · intro w'
                      go_simp
                      with_reducible rfl
                    rotate_left
                    · simp only [Act.put, List.setIfInBounds_toArray, List.set_cons_zero, List.set_cons_succ, i64_w, i32_w]
                      rfl
                    refine take_ (i := 4) (N := some 45) (v := ?_) (a' := ?_) #[true, true, true, false, true, false, false, true, true, true, false, false] rfl rfl (take_ofW HT_.out HW_.out (by kernel_rfl)) (fun _ _ _ h => h) (Or.inl ⟨by rfl, ?_⟩) hHeld ?_ ?_
                    rotate_left
                    · rintro w' ⟨s0, s1⟩
                      go_simp
                      with_reducible rfl
                    rotate_left
                    · simp only [Act.put, List.setIfInBounds_toArray, List.set_cons_zero, List.set_cons_succ, i64_w, i32_w]
                      rfl
                    refine join_ (σ := Value × Value) 3 #[true, true, true, true, true, true, false, true, true, true, false, false] (fun s_ => [(44, s_.1), (46, s_.2)]) (fun s_ w' => (w'.cell? ⟨gb162, 0, none⟩ = some (.string a3_0) ∧ w'.cell? ⟨gb162, 1, none⟩ = some (.string a3_1)) ∧ (Kd.R k26 26 w' w.heap.size (fun k_ => some k_ ≠ (s_.2 : Value).ownBlock ∧ k_ ≠ gb162) s_.1 y180) ∧ (Kd.R k26 26 w' w.heap.size (fun k_ => some k_ ≠ (s_.1 : Value).ownBlock ∧ k_ ≠ gb162) s_.2 y183) ∧ (w'.heap[gb162]? = some (.cells #[.string a3_0, .string a3_1] 26 (0, 0))) ∧ (Below w.heap.size w w')) ?_ ?_
                    rotate_left
                    · intro hCont
                      refine two_ (i := 3) (j := 5) (Ni := some 44) (Nj := some 46) #[true, true, true, true, true, false, false, true, true, true, false, false] #[true, true, true, false, true, true, false, true, true, true, false, false] rfl rfl rfl rfl (two_of HT_.out (by kernel_rfl)) (by decide) (by decide) (fun K hK => ?_) (fun K hK => ?_)
                      · skip
                        refine Kd.R_append_rows_step k26 (w0 := w) w.heap.size (by rfl) (.const (.slice none 0 0)) (.tmp 43) 30 26 (.agg #[(.string ⟨#[]⟩), (.string ⟨#[]⟩)]) 32 rfl Try.underlying30 info26 rfl (by decide) (by omega) (.slice none 0 0) ([] : List (S26)) y176 _ _ _ (fun k_ => k_ ≠ gb162) (fun _ => False) rfl rfl ?aO ?aR (fun _ _ h => h) (fun _ h => h.elim) ?aF ?aB ?aS ?aL ?_
                        (case aR => repeat (first | exact (Kd.C_below HR179.out HB.out) | (with_reducible refine Kd.C_alloc ?_ _) | (with_reducible refine Kd.C_drewN ?_ _) | (with_reducible refine Kd.C_drew ?_)))
                        (case aB => exact (by repeat (first | (with_reducible first | exact HB.out | apply below_alloc | apply pw_below_drewN | apply below_drew1 | refine below_set ?_ GE162.out) | exact HB.out)))
                        (case aF => exact (fun k_ hk => Kd.freshB (g := gb162) (o := .cells #[.string a3_0, .string a3_1] 26 (0, 0)) (by (with_reducible repeat (first | refine blk_drewN ?_ _ | refine blk_drew ?_ | refine blk_alloc ?_ _)); exact BK162.out) k_ hk))
                        (case aO => exact ((Kd.R_nil _ _ _ _ (fun k_ => k_ ≠ gb162))))
                        (case aS => exact (below_size (by repeat (first | (with_reducible first | exact HB.out | apply below_alloc | apply pw_below_drewN | apply below_drew1 | refine below_set ?_ GE162.out) | exact HB.out))))
                        (case aL => have := LMc56.out; omega)
                        intro v181 w82 ho hb hg hat
                        rw [← Ny180.out] at ho
                        have n0_ := Aside0.mk (blk_grown (g := gb162) (o := .cells #[.string a3_0, .string a3_1] 26 (0, 0)) (by (with_reducible repeat (first | refine blk_drewN ?_ _ | refine blk_drew ?_ | refine blk_alloc ?_ _)); exact BK162.out) hg (by simp [Value.ownBlock]))
                        have n1_ := Aside0.mk (hb)
                        have n2_ := Aside0.mk (ho)
                        clear BK162
                        clear HB
                        have BK162 := n0_
                        have HB := n1_
                        have HO182 := n2_
                        clear n0_ n1_ n2_
                        clear ho hb hg hat
                        refine hK.out _ _ ⟨(blk_cell BK162.out 0).trans rfl, (blk_cell BK162.out 1).trans rfl⟩ (fun hHeld => ?_)
                        clear hK K
                        refine norm_ (a' := ?_) ?_ ?_
                        rotate_left
                        · show Act.put _ (some 44) _ = _
                          simp only [Act.put, List.setIfInBounds_toArray, List.set_cons_zero, List.set_cons_succ, i64_w, i32_w]
                          rfl
                        refine one_ (i := 5) (N := some 46) #[true, true, true, true, true, true, false, true, true, true, false, false] rfl rfl (one_of HT_.out (by kernel_rfl)) (by decide) (fun K hK => ?_)
                        refine Kd.R_lit_step k26 _ 26 ?hg (N := 46) ?hd (xs := ([(⟨a3_0, a3_1⟩ : S26)] : List (S26))) (inner := [.string a3_0, .string a3_1]) (ok := fun _ => True) (okp := fun _ => True) ?hr ?hp (fun _ hk => hk) trivial (Below.refl _ _) (Nat.le_refl _) (by simp) ?_; (case hd => rfl); (case hg => rfl); (case hr => first | (go_simp; done) | (go_simp; rfl)); (case hp => exact (Reps.c2 (show Kd.M k26 _ _ _ (⟨a3_0, a3_1⟩ : S26) [.string a3_0, .string a3_1] from (k26_mkM _ _ _ (⟨a3_0, a3_1⟩ : S26) )) (Reps.none _ _)))
                        intro v184 w83 ho84 hb hg_ hnew_
                        clear hg_ hnew_
                        (first | rw [← Ny183.out] at ho84 | (simp only [Int.reduceToNat] at ho84; rw [← Ny183.out] at ho84))
                        have n0_ := Aside0.mk (Kd.R_elder' (by (with_reducible repeat (first | apply Kd.R_alloc | apply Kd.R_drewN | apply Kd.R_drew)); exact HO182.out) (Kd.R_base ho84) hb)
                        have n1_ := Aside0.mk (Kd.R_lower (Kd.R_newB (Kd.R_new' ho84 (Kd.R_lt (by (with_reducible repeat (first | apply Kd.R_alloc | apply Kd.R_drewN | apply Kd.R_drew)); exact HO182.out))) (g := gb162) (o := .cells #[.string a3_0, .string a3_1] 26 (0, 0)) (by (with_reducible repeat (first | refine blk_drewN ?_ _ | refine blk_drew ?_ | refine blk_alloc ?_ _)); exact BK162.out)) (below_size (by repeat (first | (with_reducible first | exact HB.out | apply below_alloc | apply pw_below_drewN | apply below_drew1 | refine below_set ?_ GE162.out) | exact HB.out))))
                        have n2_ := Aside0.mk (blk_below (g := gb162) (o := .cells #[.string a3_0, .string a3_1] 26 (0, 0)) (by (with_reducible repeat (first | refine blk_drewN ?_ _ | refine blk_drew ?_ | refine blk_alloc ?_ _)); exact BK162.out) hb)
                        have n3_ := Aside0.mk (below_step (by repeat (first | (with_reducible first | exact HB.out | apply below_alloc | apply pw_below_drewN | apply below_drew1 | refine below_set ?_ GE162.out) | exact HB.out)) hb)
                        clear HO182
                        clear BK162
                        clear HB
                        have HO182 := n0_
                        have HO185 := n1_
                        have BK162 := n2_
                        have HB := n3_
                        clear n0_ n1_ n2_ n3_
                        clear hb ho84
                        refine hK.out _ _ ⟨(blk_cell BK162.out 0).trans rfl, (blk_cell BK162.out 1).trans rfl⟩ (fun hHeld => ?_)
                        clear hK K
                        refine norm_ (a' := ?_) ?_ ?_
                        rotate_left
                        · show Act.put _ (some 46) _ = _
                          simp only [Act.put, List.setIfInBounds_toArray, List.set_cons_zero, List.set_cons_succ, i64_w, i32_w]
                          rfl
                        exact norm_ (by simp only [putAll, Act.put, List.setIfInBounds_toArray, List.set_cons_zero, List.set_cons_succ]) (hCont (v181, v184) _ ⟨hHeld, (by (with_reducible repeat (first | apply Kd.R_alloc | apply Kd.R_drewN | apply Kd.R_drew)); exact Kd.R_mono HO182.out (fun _ hk => ⟨hk.2, hk.1⟩)), (by (with_reducible repeat (first | apply Kd.R_alloc | apply Kd.R_drewN | apply Kd.R_drew)); exact Kd.R_mono HO185.out (fun _ hk => ⟨hk.1.2, hk.2⟩)), (by (with_reducible repeat (first | refine blk_drewN ?_ _ | refine blk_drew ?_ | refine blk_alloc ?_ _)); exact BK162.out), (by repeat (first | (with_reducible first | exact HB.out | apply below_alloc | apply pw_below_drewN | apply below_drew1 | refine below_set ?_ GE162.out) | exact HB.out))⟩)
                      · skip
                        refine Kd.R_lit_step k26 _ 26 ?hg (N := 46) ?hd (xs := ([(⟨a3_0, a3_1⟩ : S26)] : List (S26))) (inner := [.string a3_0, .string a3_1]) (ok := fun _ => True) (okp := fun _ => True) ?hr ?hp (fun _ hk => hk) trivial (Below.refl _ _) (Nat.le_refl _) (by simp) ?_; (case hd => rfl); (case hg => rfl); (case hr => first | (go_simp; done) | (go_simp; rfl)); (case hp => exact (Reps.c2 (show Kd.M k26 _ _ _ (⟨a3_0, a3_1⟩ : S26) [.string a3_0, .string a3_1] from (k26_mkM _ _ _ (⟨a3_0, a3_1⟩ : S26) )) (Reps.none _ _)))
                        intro v184 w82 ho83 hb hg_ hnew_
                        clear hg_ hnew_
                        (first | rw [← Ny183.out] at ho83 | (simp only [Int.reduceToNat] at ho83; rw [← Ny183.out] at ho83))
                        have n0_ := Aside0.mk (Kd.R_lower (Kd.R_newB ho83 (g := gb162) (o := .cells #[.string a3_0, .string a3_1] 26 (0, 0)) (by (with_reducible repeat (first | refine blk_drewN ?_ _ | refine blk_drew ?_ | refine blk_alloc ?_ _)); exact BK162.out)) (below_size (by repeat (first | (with_reducible first | exact HB.out | apply below_alloc | apply pw_below_drewN | apply below_drew1 | refine below_set ?_ GE162.out) | exact HB.out))))
                        have n1_ := Aside0.mk (blk_below (g := gb162) (o := .cells #[.string a3_0, .string a3_1] 26 (0, 0)) (by (with_reducible repeat (first | refine blk_drewN ?_ _ | refine blk_drew ?_ | refine blk_alloc ?_ _)); exact BK162.out) hb)
                        have n2_ := Aside0.mk (below_step (by repeat (first | (with_reducible first | exact HB.out | apply below_alloc | apply pw_below_drewN | apply below_drew1 | refine below_set ?_ GE162.out) | exact HB.out)) hb)
                        clear BK162
                        clear HB
                        have HO185 := n0_
                        have BK162 := n1_
                        have HB := n2_
                        clear n0_ n1_ n2_
                        clear hb ho83
                        refine hK.out _ _ ⟨(blk_cell BK162.out 0).trans rfl, (blk_cell BK162.out 1).trans rfl⟩ (fun hHeld => ?_)
                        clear hK K
                        refine norm_ (a' := ?_) ?_ ?_
                        rotate_left
                        · show Act.put _ (some 46) _ = _
                          simp only [Act.put, List.setIfInBounds_toArray, List.set_cons_zero, List.set_cons_succ, i64_w, i32_w]
                          rfl
                        refine one_ (i := 3) (N := some 44) #[true, true, true, true, true, true, false, true, true, true, false, false] rfl rfl (one_of HT_.out (by kernel_rfl)) (by decide) (fun K hK => ?_)
                        refine Kd.R_append_rows_step k26 (w0 := w) w.heap.size (by rfl) (.const (.slice none 0 0)) (.tmp 43) 30 26 (.agg #[(.string ⟨#[]⟩), (.string ⟨#[]⟩)]) 32 rfl Try.underlying30 info26 rfl (by decide) (by omega) (.slice none 0 0) ([] : List (S26)) y176 _ _ _ (fun k_ => some k_ ≠ (v184 : Value).ownBlock ∧ k_ ≠ gb162) (fun _ => False) rfl rfl ?aO ?aR (fun _ _ h => h) (fun _ h => h.elim) ?aF ?aB ?aS ?aL ?_
                        (case aR => repeat (first | exact (Kd.C_below HR179.out HB.out) | (with_reducible refine Kd.C_alloc ?_ _) | (with_reducible refine Kd.C_drewN ?_ _) | (with_reducible refine Kd.C_drew ?_)))
                        (case aB => exact (by repeat (first | (with_reducible first | exact HB.out | apply below_alloc | apply pw_below_drewN | apply below_drew1 | refine below_set ?_ GE162.out) | exact HB.out)))
                        (case aF => exact (fun k_ hk => ⟨Kd.fresh' (Kd.R_lt (by (with_reducible repeat (first | apply Kd.R_alloc | apply Kd.R_drewN | apply Kd.R_drew)); exact HO185.out)) k_ hk, Kd.freshB (g := gb162) (o := .cells #[.string a3_0, .string a3_1] 26 (0, 0)) (by (with_reducible repeat (first | refine blk_drewN ?_ _ | refine blk_drew ?_ | refine blk_alloc ?_ _)); exact BK162.out) k_ hk⟩))
                        (case aO => exact ((Kd.R_nil _ _ _ _ (fun k_ => some k_ ≠ (v184 : Value).ownBlock ∧ k_ ≠ gb162))))
                        (case aS => exact (below_size (by repeat (first | (with_reducible first | exact HB.out | apply below_alloc | apply pw_below_drewN | apply below_drew1 | refine below_set ?_ GE162.out) | exact HB.out))))
                        (case aL => have := LMc56.out; omega)
                        intro v181 w84 ho hb hg hat
                        rw [← Ny180.out] at ho
                        have n0_ := Aside0.mk (blk_grown (g := gb162) (o := .cells #[.string a3_0, .string a3_1] 26 (0, 0)) (by (with_reducible repeat (first | refine blk_drewN ?_ _ | refine blk_drew ?_ | refine blk_alloc ?_ _)); exact BK162.out) hg (by simp [Value.ownBlock]))
                        have n1_ := Aside0.mk (Kd.R_after (Kd.R_apart_nil (by (with_reducible repeat (first | apply Kd.R_alloc | apply Kd.R_drewN | apply Kd.R_drew)); exact HO185.out)) hg hat)
                        have n2_ := Aside0.mk (hb)
                        have n3_ := Aside0.mk (ho)
                        clear BK162
                        clear HO185
                        clear HB
                        have BK162 := n0_
                        have HO185 := n1_
                        have HB := n2_
                        have HO182 := n3_
                        clear n0_ n1_ n2_ n3_
                        clear ho hb hg hat
                        refine hK.out _ _ ⟨(blk_cell BK162.out 0).trans rfl, (blk_cell BK162.out 1).trans rfl⟩ (fun hHeld => ?_)
                        clear hK K
                        refine norm_ (a' := ?_) ?_ ?_
                        rotate_left
                        · show Act.put _ (some 44) _ = _
                          simp only [Act.put, List.setIfInBounds_toArray, List.set_cons_zero, List.set_cons_succ, i64_w, i32_w]
                          rfl
                        exact norm_ (by simp only [putAll, Act.put, List.setIfInBounds_toArray, List.set_cons_zero, List.set_cons_succ]) (hCont (v181, v184) _ ⟨hHeld, (by (with_reducible repeat (first | apply Kd.R_alloc | apply Kd.R_drewN | apply Kd.R_drew)); exact HO182.out), (by (with_reducible repeat (first | apply Kd.R_alloc | apply Kd.R_drewN | apply Kd.R_drew)); exact Kd.R_mono HO185.out (fun _ hk => ⟨hk.2, hk.1.2⟩)), (by (with_reducible repeat (first | refine blk_drewN ?_ _ | refine blk_drew ?_ | refine blk_alloc ?_ _)); exact BK162.out), (by repeat (first | (with_reducible first | exact HB.out | apply below_alloc | apply pw_below_drewN | apply below_drew1 | refine below_set ?_ GE162.out) | exact HB.out))⟩)
                    rintro ⟨v181, v184⟩ w85 ⟨hS_, h0_, h1_, h2_, h3_⟩
                    have n0_ : Aside0 (Kd.R k26 26 w85 w.heap.size (fun k_ => some k_ ≠ (v184 : Value).ownBlock ∧ k_ ≠ gb162) v181 y180) := ⟨h0_⟩
                    have n1_ : Aside0 (Kd.R k26 26 w85 w.heap.size (fun k_ => some k_ ≠ (v181 : Value).ownBlock ∧ k_ ≠ gb162) v184 y183) := ⟨h1_⟩
                    have n2_ : Aside0 (w85.heap[gb162]? = some (.cells #[.string a3_0, .string a3_1] 26 (0, 0))) := ⟨h2_⟩
                    have n3_ : Aside0 (Below w.heap.size w w85) := ⟨h3_⟩
                    clear BK162
                    clear HB
                    clear h0_ h1_ h2_ h3_
                    have HO182 := n0_
                    have HO185 := n1_
                    have BK162 := n2_
                    have HB := n3_
                    clear n0_ n1_ n2_ n3_
                    have hHeld : w85.cell? ⟨gb162, 0, none⟩ = some (.string a3_0) ∧ w85.cell? ⟨gb162, 1, none⟩ = some (.string a3_1) := hS_
                    obtain ⟨Ao87, co87, eo87⟩ := Kd.R_slice HO185.out
                    (first | subst eo87 | (injection eo87 with f1_ f2_ f3_; have f4_ := f1_.symm; have f5_ := f3_.symm; clear f1_ f2_ f3_; subst f4_; subst f5_))
                    refine norm_ (a' := ?_) ?_ ?_
                    rotate_left
                    · simp only [putAll, Act.put, List.setIfInBounds_toArray, List.set_cons_zero, List.set_cons_succ]
                      rfl
                    refine one_ (i := 6) (N := some 47) #[true, true, true, true, true, true, true, true, true, true, false, false] rfl rfl (one_of HT_.out (by kernel_rfl)) (by decide) (fun K hK => ?_)
                    refine Kd.R_append_rows_step k26 (w0 := w) w.heap.size (by rfl) (.tmp 44) (.tmp 46) 30 26 (.agg #[(.string ⟨#[]⟩), (.string ⟨#[]⟩)]) 32 rfl Try.underlying30 info26 rfl (by decide) (by omega) v181 y180 y183 _ _ _ (fun k_ => some k_ ≠ (.slice Ao87 y183.length co87 : Value).ownBlock ∧ k_ ≠ gb162) (fun _ => False) rfl rfl ?aO ?aR (fun _ _ h => h) (fun _ h => h.elim) ?aF ?aB ?aS ?aL ?_
                    (case aR => repeat (first | exact (Kd.R_reads' HO185.out).2.2 | (with_reducible refine Kd.C_alloc ?_ _) | (with_reducible refine Kd.C_drewN ?_ _) | (with_reducible refine Kd.C_drew ?_)))
                    (case aB => exact (by repeat (first | (with_reducible first | exact HB.out | apply below_alloc | apply pw_below_drewN | apply below_drew1 | refine below_set ?_ GE162.out) | exact HB.out)))
                    (case aF => exact (fun k_ hk => ⟨Kd.fresh' (Kd.R_lt (by (with_reducible repeat (first | apply Kd.R_alloc | apply Kd.R_drewN | apply Kd.R_drew)); exact HO185.out)) k_ hk, Kd.freshB (g := gb162) (o := .cells #[.string a3_0, .string a3_1] 26 (0, 0)) (by (with_reducible repeat (first | refine blk_drewN ?_ _ | refine blk_drew ?_ | refine blk_alloc ?_ _)); exact BK162.out) k_ hk⟩))
                    (case aO => exact (by (with_reducible repeat (first | apply Kd.R_alloc | apply Kd.R_drewN | apply Kd.R_drew)); exact HO182.out))
                    (case aS => exact (below_size (by repeat (first | (with_reducible first | exact HB.out | apply below_alloc | apply pw_below_drewN | apply below_drew1 | refine below_set ?_ GE162.out) | exact HB.out))))
                    (case aL => have := LMc57.out; omega)
                    intro v187 w86 ho hb hg hat
                    rw [← Ny186.out] at ho
                    have n0_ := Aside0.mk (blk_grown (g := gb162) (o := .cells #[.string a3_0, .string a3_1] 26 (0, 0)) (by (with_reducible repeat (first | refine blk_drewN ?_ _ | refine blk_drew ?_ | refine blk_alloc ?_ _)); exact BK162.out) hg (Kd.R_away HO182.out (fun _ hk => hk.2)))
                    have n1_ := Aside0.mk (Kd.R_after (ok := (fun k_ => k_ ≠ gb162)) (by (with_reducible repeat (first | apply Kd.R_alloc | apply Kd.R_drewN | apply Kd.R_drew)); exact Kd.R_mono HO185.out (fun _ hk => ⟨hk.2, hk.1⟩)) hg hat)
                    have n2_ := Aside0.mk (hb)
                    have n3_ := Aside0.mk (ho)
                    clear BK162
                    clear HO185
                    clear HB
                    clear HO182
                    have BK162 := n0_
                    have HO185 := n1_
                    have HB := n2_
                    have HO188 := n3_
                    clear n0_ n1_ n2_ n3_
                    clear ho hb hg hat
                    refine hK.out _ _ ⟨(blk_cell BK162.out 0).trans rfl, (blk_cell BK162.out 1).trans rfl⟩ (fun hHeld => ?_)
                    clear hK K
                    refine norm_ (a' := ?_) ?_ ?_
                    rotate_left
                    · show Act.put _ (some 47) _ = _
                      simp only [Act.put, List.setIfInBounds_toArray, List.set_cons_zero, List.set_cons_succ, i64_w, i32_w]
                      rfl
                    refine one_ (i := 10) (N := some 51) #[true, true, true, true, true, true, true, true, true, true, true, false] rfl rfl (one_of HT_.out (by kernel_rfl)) (by decide) (fun K hK => ?_)
                    refine Kd.R_append_rows_step k26 (w0 := w) w.heap.size (by rfl) (.tmp 47) (.tmp 50) 30 26 (.agg #[(.string ⟨#[]⟩), (.string ⟨#[]⟩)]) 32 rfl Try.underlying30 info26 rfl (by decide) (by omega) v187 y186 y189 _ _ _ (fun k_ => some k_ ≠ (.slice Ao87 y183.length co87 : Value).ownBlock ∧ k_ ≠ gb162) (fun _ => False) rfl rfl ?aO ?aR (fun _ _ h => h) (fun _ h => h.elim) ?aF ?aB ?aS ?aL ?_
                    (case aR => repeat (first | exact (Kd.C_below HR192.out HB.out) | (with_reducible refine Kd.C_alloc ?_ _) | (with_reducible refine Kd.C_drewN ?_ _) | (with_reducible refine Kd.C_drew ?_)))
                    (case aB => exact (by repeat (first | (with_reducible first | exact HB.out | apply below_alloc | apply pw_below_drewN | apply below_drew1 | refine below_set ?_ GE162.out) | exact HB.out)))
                    (case aF => exact (fun k_ hk => ⟨Kd.fresh' (Kd.R_lt (by (with_reducible repeat (first | apply Kd.R_alloc | apply Kd.R_drewN | apply Kd.R_drew)); exact HO185.out)) k_ hk, Kd.freshB (g := gb162) (o := .cells #[.string a3_0, .string a3_1] 26 (0, 0)) (by (with_reducible repeat (first | refine blk_drewN ?_ _ | refine blk_drew ?_ | refine blk_alloc ?_ _)); exact BK162.out) k_ hk⟩))
                    (case aO => exact (by (with_reducible repeat (first | apply Kd.R_alloc | apply Kd.R_drewN | apply Kd.R_drew)); exact HO188.out))
                    (case aS => exact (below_size (by repeat (first | (with_reducible first | exact HB.out | apply below_alloc | apply pw_below_drewN | apply below_drew1 | refine below_set ?_ GE162.out) | exact HB.out))))
                    (case aL => have := LMc60.out; omega)
                    intro v194 w88 ho hb hg hat
                    rw [← Ny193.out] at ho
                    have n0_ := Aside0.mk (blk_grown (g := gb162) (o := .cells #[.string a3_0, .string a3_1] 26 (0, 0)) (by (with_reducible repeat (first | refine blk_drewN ?_ _ | refine blk_drew ?_ | refine blk_alloc ?_ _)); exact BK162.out) hg (Kd.R_away HO188.out (fun _ hk => hk.2)))
                    have n1_ := Aside0.mk (Kd.R_after (ok := (fun k_ => k_ ≠ gb162)) (by (with_reducible repeat (first | apply Kd.R_alloc | apply Kd.R_drewN | apply Kd.R_drew)); exact HO185.out) hg hat)
                    have n2_ := Aside0.mk (hb)
                    have n3_ := Aside0.mk (ho)
                    clear BK162
                    clear HO185
                    clear HB
                    clear HO188
                    have BK162 := n0_
                    have HO185 := n1_
                    have HB := n2_
                    have HO195 := n3_
                    clear n0_ n1_ n2_ n3_
                    clear ho hb hg hat
                    refine hK.out _ _ ⟨(blk_cell BK162.out 0).trans rfl, (blk_cell BK162.out 1).trans rfl⟩ (fun hHeld => ?_)
                    clear hK K
                    refine norm_ (a' := ?_) ?_ ?_
                    rotate_left
                    · show Act.put _ (some 51) _ = _
                      simp only [Act.put, List.setIfInBounds_toArray, List.set_cons_zero, List.set_cons_succ, i64_w, i32_w]
                      rfl
                    refine pure_ (i := 11) (N := some 12) (v := ?_) (a' := ?_) #[true, true, true, true, true, true, true, true, true, true, true, true] rfl rfl (any_of HT_.out (by kernel_rfl)) (fun _ _ _ h => h) (Or.inl ⟨by rfl, ?_⟩) ?_ ?_
                    rotate_left
                    · intro w'
                      go_simp
                      with_reducible rfl
                    rotate_left
                    · simp only [Act.put, List.setIfInBounds_toArray, List.set_cons_zero, List.set_cons_succ, i64_w, i32_w]
                      rfl
                    refine done_ (done_of HT_.out (by kernel_rfl)) ?_
                    obtain ⟨Ao89, co89, eo89⟩ := Kd.R_slice HO195.out
                    subst eo89
                    try go_wp2_with (first | ((with_reducible refine gate_callee (f := 20) rfl ?_); refine goesL_ (some 55) rfl rfl Try.func20 (by kernel_rfl) rfl #[.string a0, .bool a1, .slice Ao89 y193.length co89] rfl (by (try simp only [List.map_toArray, List.map_cons, List.map_nil]); first | done | rfl | (simp only [List.length_drop, List.length_take]; rfl)) ?_; (with_reducible refine (cors_Check.calls kj5 a0 a1 _ _ y193 t196 _ ?side1 ?side2 A61.out).mono ?_); (case side1 => repeat (first | exact (Kd.R_reads' HO195.out).2.2 | (with_reducible refine Kd.C_alloc ?_ _) | (with_reducible refine Kd.C_drewN ?_ _) | (with_reducible refine Kd.C_drew ?_))); (case side2 => exact (Kd.R_reads' HO195.out).2.1); rintro e w90 ⟨rfl, hb⟩; refine ⟨_, rfl, ?_⟩; have n0_ := Aside0.mk (Kd.R_below (by (with_reducible repeat (first | apply Kd.R_alloc | apply Kd.R_drewN | apply Kd.R_drew)); exact HO185.out) hb); have n1_ := Aside0.mk (Kd.R_below (by (with_reducible repeat (first | apply Kd.R_alloc | apply Kd.R_drewN | apply Kd.R_drew)); exact HO195.out) hb); have n2_ := Aside0.mk (blk_below (g := gb162) (o := .cells #[.string a3_0, .string a3_1] 26 (0, 0)) (by (with_reducible repeat (first | refine blk_drewN ?_ _ | refine blk_drew ?_ | refine blk_alloc ?_ _)); exact BK162.out) hb); have n3_ := Aside0.mk (below_step (by repeat (first | (with_reducible first | exact HB.out | apply below_alloc | apply pw_below_drewN | apply below_drew1 | refine below_set ?_ GE162.out) | exact HB.out)) hb); clear HO185; clear HO195; clear BK162; clear HB; have HO185 := n0_; have HO195 := n1_; have BK162 := n2_; have HB := n3_; clear n0_ n1_ n2_ n3_; (try clear hb); (try clear hb2); (try clear hk); (try clear hi)) | ((with_reducible refine gate_callee (f := 20) rfl ?_); refine goesL_ (some 59) rfl rfl Try.func20 (by kernel_rfl) rfl #[.string a0, .bool a1, .slice A2 l2.length c2] rfl (by (try simp only [List.map_toArray, List.map_cons, List.map_nil]); first | done | rfl | (simp only [List.length_drop, List.length_take]; rfl)) ?_; (with_reducible refine (cors_Check.calls kj5 a0 a1 _ _ l2 t197 _ ?side1 ?side2 A62.out).mono ?_); (case side1 => repeat (first | exact (Kd.C_below HR2.out HB.out) | (with_reducible refine Kd.C_alloc ?_ _) | (with_reducible refine Kd.C_drewN ?_ _) | (with_reducible refine Kd.C_drew ?_))); (case side2 => exact HC2.out); rintro e w91 ⟨rfl, hb⟩; refine ⟨_, rfl, ?_⟩; have n0_ := Aside0.mk (Kd.R_below (by (with_reducible repeat (first | apply Kd.R_alloc | apply Kd.R_drewN | apply Kd.R_drew)); exact HO185.out) hb); have n1_ := Aside0.mk (Kd.R_below (by (with_reducible repeat (first | apply Kd.R_alloc | apply Kd.R_drewN | apply Kd.R_drew)); exact HO195.out) hb); have n2_ := Aside0.mk (blk_below (g := gb162) (o := .cells #[.string a3_0, .string a3_1] 26 (0, 0)) (by (with_reducible repeat (first | refine blk_drewN ?_ _ | refine blk_drew ?_ | refine blk_alloc ?_ _)); exact BK162.out) hb); have n3_ := Aside0.mk (below_step (by repeat (first | (with_reducible first | exact HB.out | apply below_alloc | apply pw_below_drewN | apply below_drew1 | refine below_set ?_ GE162.out) | exact HB.out)) hb); clear HO185; clear HO195; clear BK162; clear HB; have HO185 := n0_; have HO195 := n1_; have BK162 := n2_; have HB := n3_; clear n0_ n1_ n2_ n3_; (try clear hb); (try clear hb2); (try clear hk); (try clear hi)))
                    go_ret
                    exact ⟨by first | rfl | (simp [errW_none, errW_some] <;> rfl) | (simp [*, errW_none, errW_some] <;> rfl), by repeat (first | (with_reducible first | exact HB.out | apply below_alloc | apply pw_below_drewN | apply below_drew1 | refine below_set ?_ GE162.out) | exact HB.out)⟩
                · rw [if_neg c60] at H
                  exact absurd H (by simp)
              · rw [if_neg c57] at H
                exact absurd H (by simp)
            · rw [if_neg c56] at H
              exact absurd H (by simp)
          · rw [if_neg c55] at H
            exact absurd H (by simp)
        · rw [if_neg c54] at H
          exact absurd H (by simp)

end Go.Proofs.Ytojcceafgkdchaa.Pr
