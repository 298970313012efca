-- Made by a program of this session (wip/xp/xp.py), over the print's words.
import Derived.Test.YtojcceafgkdchaaPr0
import Derived.Test.YtojcceafgkdchaaPr2
import Derived.Test.YtojcceafgkdchaaPr4
import Derived.Test.YtojcceafgkdchaaPr5
import Derived.Test.YtojcceafgkdchaaG1
namespace Go.Proofs.Ytojcceafgkdchaa.Pr
open Go.RowKit Go.Proofs.YtojcceafgkdchaaW.PrintWords Go.Proofs.YtojcceafgkdchaaW.PrintLast Go.Proofs.YtojcceafgkdchaaW.PrintMore
attribute [local go_sem] max2_int min2_int max_two min_two max_three min_three max_four min_four   -- for this text's walks alone
set_option linter.unusedVariables false
set_option linter.unusedSimpArgs false

/-! ### lockkeeperref7_Names: function 45 -/
def lockkeeperref7_Names.l0 : Nat → List (S26) → List ByteArray → List ByteArray → Int → Int → Option (List ByteArray)
 | 0, _, _, _, _, _ => none
 | k + 1, x0, x3, x4, x5, x6 => if x6 < (x0.length : Int) then (if 0 ≤ x6 then ((lockkeeperref1_Lower.f ((rd_T26 x0 x6).f0)).bind fun t237 => (if x4.length < 8796093022208 then ((some (x4 ++ [t237] : List ByteArray)).bind fun y238 => ((lockkeeperref7_Header.f k ((rd_T26 x0 x6).f0) ((rd_T26 x0 x6).f1)).bind fun t242 => (if t242 = true then ((lockkeeperref1_Trim.f k ((rd_T26 x0 x6).f1)).bind fun t244 => (lockkeeperref7_Names.l0 k x0 x3 y238 (wrap64 (x5 + (t244.size : Int))) (wrap64 (x6 + 1)))) else (if x3.length < 8796093022208 then (lockkeeperref7_Names.l0 k x0 (x3 ++ [t237]) y238 x5 (wrap64 (x6 + 1))) else (none))))) else (none))) else (none)) else (if x5 > 1024 then ((lockkeeperref1_Rising.f k x4).bind fun t248 => (some t248)) else ((lockkeeperref1_Rising.f k x3).bind fun t251 => (some t251)))
def lockkeeperref7_Names.f (k : Nat) (l0 : List (S26)) : Option (List ByteArray) := lockkeeperref7_Names.l0 k l0 ([] : List ByteArray) ([] : List ByteArray) 0 0
theorem lockkeeperref7_Names.mono_l : ∀ k, (∀ y0 y1 y2 y3 y4, LeO (lockkeeperref7_Names.l0 k y0 y1 y2 y3 y4) (lockkeeperref7_Names.l0 (k + 1) y0 y1 y2 y3 y4))
 | 0 => fun _ _ _ _ _ r h => by simp [lockkeeperref7_Names.l0] at h
 | k + 1 => by
  have ih0 := lockkeeperref7_Names.mono_l k
  ·intro y0 y1 y2 y3 y4
   unfold lockkeeperref7_Names.l0
   repeat' first
   | (with_reducible exact ih0 _ _ _ _ _)
   | (with_reducible exact lockkeeperref1_Rising.mono _ _)
   | (with_reducible exact lockkeeperref1_Trim.mono _ _)
   | (with_reducible exact lockkeeperref7_Header.mono _ _ _)
   | (with_reducible exact LeO.refl _)
   | (with_reducible exact LeO.none _)
   | (with_reducible refine LeO.ite ?_ ?_)
   | (with_reducible refine LeO.bind ?_ (fun _ => ?_))
   | exact ih0 _ _ _ _ _
   | exact lockkeeperref1_Rising.mono _ _
   | exact lockkeeperref1_Trim.mono _ _
   | exact lockkeeperref7_Header.mono _ _ _
   | exact LeO.none _
   | refine LeO.ite ?_ ?_
   | refine LeO.bind ?_ (fun _ => ?_)
theorem lockkeeperref7_Names.mono : ∀ a0 k, LeO (lockkeeperref7_Names.f k a0) (lockkeeperref7_Names.f (k + 1) a0) := by
 intro a0 k
 have ih0 := lockkeeperref7_Names.mono_l k
 unfold lockkeeperref7_Names.f
 repeat' first
   | (with_reducible exact ih0 _ _ _ _ _)
   | (with_reducible exact lockkeeperref1_Rising.mono _ _)
   | (with_reducible exact lockkeeperref1_Trim.mono _ _)
   | (with_reducible exact lockkeeperref7_Header.mono _ _ _)
   | (with_reducible exact LeO.refl _)
   | (with_reducible exact LeO.none _)
   | (with_reducible refine LeO.ite ?_ ?_)
   | (with_reducible refine LeO.bind ?_ (fun _ => ?_))
   | exact ih0 _ _ _ _ _
   | exact lockkeeperref1_Rising.mono _ _
   | exact lockkeeperref1_Trim.mono _ _
   | exact lockkeeperref7_Header.mono _ _ _
   | exact LeO.none _
   | refine LeO.ite ?_ ?_
   | refine LeO.bind ?_ (fun _ => ?_)
set_option maxHeartbeats 8000000 in
set_option maxRecDepth 100000 in
theorem lockkeeperref7_Names.calls (k : Nat) (A0 : Option Addr) (c0 : Nat) (l0 : List (S26)) (r : List ByteArray) (w : World) (hr0 : Kd.C k26 w A0 l0.length l0) (hc0 : l0.length ≤ c0) (h : lockkeeperref7_Names.f k l0 = some r) :
  Calls Try.prog 45 #[.slice A0 l0.length c0] w fun e w' => ∃ v0_ : Value, e = .returned (v0_) ∧ Kd.R Kd.string 9 w' w.heap.size (fun _ => True) v0_ r ∧ Below w.heap.size w w' := by
 have hu26 := Try.underlying26
 have HR0 := Aside0.mk hr0
 have HC0 := Aside0.mk hc0
 clear hr0 hc0
 have HB := Aside0.mk (Below.refl w.heap.size w)
 have H : (lockkeeperref7_Names.l0 k l0 ([] : List ByteArray) ([] : List ByteArray) 0 0) = some r := h
 clear h
 have H' := Aside0.mk H
 clear H
 go_enter Try.func45, Try.ntmps45
 go_wp2
 go_loopg [3, 4, 5, 6] k (fun kq v3 v4 v5 v6 w' => ∃ (x3_1 : List ByteArray) (x4_1 : List ByteArray) (x5_1 : Int) (x6_1 : Int), v5 = .int .i64 x5_1 ∧ v6 = .int .i64 x6_1 ∧ Aside0 (lockkeeperref7_Names.l0 kq l0 x3_1 x4_1 x5_1 x6_1 = some r) ∧ Aside0 (kq ≤ k) ∧ Aside0 (Kd.R Kd.string 9 w' w.heap.size (fun k_ => some k_ ≠ (v4 : Value).ownBlock) v3 x3_1) ∧ Aside0 (Kd.R Kd.string 9 w' w.heap.size (fun k_ => some k_ ≠ (v3 : Value).ownBlock) v4 x4_1) ∧ Aside0 (Below w.heap.size w w'))
 case atStart => exact ⟨(([] : List ByteArray)), (([] : List ByteArray)), (0), (0), (by first | rfl | (simp; done) | (simp [*]; done)), (by first | rfl | (simp; done) | (simp [*]; done)), H', ⟨Nat.le_refl _⟩, ⟨by first | exact Kd.R_nil _ _ _ _ _ | exact Kd.N_nil _ _ _ _ _ | exact Kd.V_nil _ _ _ _ _ | exact Kd.Q_nil _ _ _ _ _ | exact Kd.S_nil _ _ _ _ _⟩, ⟨by first | exact Kd.R_nil _ _ _ _ _ | exact Kd.N_nil _ _ _ _ _ | exact Kd.V_nil _ _ _ _ _ | exact Kd.Q_nil _ _ _ _ _ | exact Kd.S_nil _ _ _ _ _⟩, ⟨by repeat (first | (with_reducible first | exact HB.out | apply below_alloc | apply pw_below_drewN | apply below_drew1) | exact HB.out)⟩⟩
 case round =>
  clear H'
  obtain ⟨x3_1, x4_1, x5_1, x6_1, rfl, rfl, HA, HK1, HO_3, HO_4, HB⟩ := hrel
  cases gk with
  | zero => exact absurd HA.out (by simp [lockkeeperref7_Names.l0])
  | succ k1 =>
   have H := HA.out
   clear HA
   simp only [lockkeeperref7_Names.l0] at H
   by_cases c2 : x6_1 < (l0.length : Int)
   ·rw [if_pos c2] at H
    have c2b0 : decide (x6_1 < (l0.length : Int)) = true := decide_eq_true c2
    clear c2
    by_cases c3 : 0 ≤ x6_1
    ·rw [if_pos c3] at H
     have c3b0 : decide (0 ≤ x6_1) = true := decide_eq_true c3
     clear c3
     replace H := Option.bind_eq_some_iff.mp H
     obtain ⟨t237, A40, H⟩ := H
     replace H : (if x4_1.length < 8796093022208 then ((some (x4_1 ++ [t237] : List ByteArray)).bind fun y238 => ((lockkeeperref7_Header.f k1 ((rd_T26 l0 x6_1).f0) ((rd_T26 l0 x6_1).f1)).bind fun t242 => (if t242 = true then ((lockkeeperref1_Trim.f k1 ((rd_T26 l0 x6_1).f1)).bind fun t244 => (lockkeeperref7_Names.l0 k1 l0 x3_1 y238 (wrap64 (x5_1 + (t244.size : Int))) (wrap64 (x6_1 + 1)))) else (if x3_1.length < 8796093022208 then (lockkeeperref7_Names.l0 k1 l0 (x3_1 ++ [t237]) y238 x5_1 (wrap64 (x6_1 + 1))) else (none))))) else (none)) = some r := H
     have A4 := Aside0.mk A40
     clear A40
     by_cases c5 : x4_1.length < 8796093022208
     ·rw [if_pos c5] at H
      have LMc5 := Aside0.mk c5
      clear c5
      obtain ⟨y238, hy238⟩ : ∃ y_ : List ByteArray, y_ = (x4_1 ++ [t237]) := ⟨_, rfl⟩
      replace H : ((lockkeeperref7_Header.f k1 ((rd_T26 l0 x6_1).f0) ((rd_T26 l0 x6_1).f1)).bind fun t242 => (if t242 = true then ((lockkeeperref1_Trim.f k1 ((rd_T26 l0 x6_1).f1)).bind fun t244 => (lockkeeperref7_Names.l0 k1 l0 x3_1 y238 (wrap64 (x5_1 + (t244.size : Int))) (wrap64 (x6_1 + 1)))) else (if x3_1.length < 8796093022208 then (lockkeeperref7_Names.l0 k1 l0 (x3_1 ++ [t237]) y238 x5_1 (wrap64 (x6_1 + 1))) else (none)))) = some r := by first | (rw [hy238]; with_reducible exact H) | (have H2_ := (Option.bind_some _ _).symm.trans H; rw [hy238]; with_reducible exact H2_) | (have H2_ := (Option.bind_some _ _).symm.trans H; with_reducible exact H2_) | with_reducible exact H | (rw [hy238]; exact H) | exact H
      have Ny238 := Aside0.mk hy238
      clear hy238
      replace H := Option.bind_eq_some_iff.mp H
      obtain ⟨t242, A60, H⟩ := H
      replace H : (if t242 = true then ((lockkeeperref1_Trim.f k1 ((rd_T26 l0 x6_1).f1)).bind fun t244 => (lockkeeperref7_Names.l0 k1 l0 x3_1 y238 (wrap64 (x5_1 + (t244.size : Int))) (wrap64 (x6_1 + 1)))) else (if x3_1.length < 8796093022208 then (lockkeeperref7_Names.l0 k1 l0 (x3_1 ++ [t237]) y238 x5_1 (wrap64 (x6_1 + 1))) else (none))) = some r := H
      have A6 := Aside0.mk A60
      clear A60
      by_cases c7 : t242 = true
      ·subst c7
       have H1 : ((lockkeeperref1_Trim.f k1 ((rd_T26 l0 x6_1).f1)).bind fun t244 => (lockkeeperref7_Names.l0 k1 l0 x3_1 y238 (wrap64 (x5_1 + (t244.size : Int))) (wrap64 (x6_1 + 1)))) = some r := by rw [if_pos rfl] at H; exact H
       clear H
       have H := H1
       clear H1
       replace H := Option.bind_eq_some_iff.mp H
       obtain ⟨t244, A80, H⟩ := H
       replace H : (lockkeeperref7_Names.l0 k1 l0 x3_1 y238 (wrap64 (x5_1 + (t244.size : Int))) (wrap64 (x6_1 + 1))) = some r := H
       have A8 := Aside0.mk A80
       clear A80
       have H' := Aside0.mk H
       clear H
       have p236 : 0 ≤ (x6_1 : Int) := of_decide_eq_true (by first | (with_reducible assumption) | assumption)
       have q236 : x6_1 < (l0.length : Int) := of_decide_eq_true (by first | (with_reducible assumption) | assumption)
       obtain ⟨ad236, e236, hx236_0, hx236_1⟩ := at_T26 HR0.out x6_1 p236 q236
       cases e236
       replace hx236_0 := (HB.out.cell (World.block_lt_of_cell? w _ hx236_0)).trans hx236_0
       replace hx236_1 := (HB.out.cell (World.block_lt_of_cell? w _ hx236_1)).trans hx236_1
       replace p236 := eq_true p236
       replace q236 := eq_true q236
       go_wp2_with (first | ((with_reducible refine gate_callee (f := 69) rfl ?_); refine goesL_ (some 19) rfl rfl Try.func69 (by kernel_rfl) rfl #[.string ((rd_T26 l0 x6_1).f0)] rfl (by (try simp only [List.map_toArray, List.map_cons, List.map_nil]); first | done | rfl | (simp only [List.length_drop, List.length_take]; rfl)) ?_; (with_reducible refine (lockkeeperref1_Lower.calls ((rd_T26 l0 x6_1).f0) t237 _ A4.out).mono ?_); rintro e w9 ⟨rfl, hb⟩; refine ⟨_, rfl, ?_⟩; have n0_ := Aside0.mk (Kd.R_below (by (with_reducible repeat (first | apply Kd.R_alloc | apply Kd.R_drewN | apply Kd.R_drew)); exact HO_3.out) hb); have n1_ := Aside0.mk (Kd.R_below (by (with_reducible repeat (first | apply Kd.R_alloc | apply Kd.R_drewN | apply Kd.R_drew)); exact HO_4.out) hb); have n2_ := Aside0.mk (below_step (by repeat (first | (with_reducible first | exact HB.out | apply below_alloc | apply pw_below_drewN | apply below_drew1) | exact HB.out)) hb); clear HO_3; clear HO_4; clear HB; have HO_3 := n0_; have HO_4 := n1_; have HB := n2_; clear n0_ n1_ n2_; (try clear hb); (try clear hb2); (try clear hk); (try clear hi)) | ((with_reducible refine gate_builtin (b := .append) (xs := #[.tmp 20, .tmp 22]) rfl ?_); at_builtin; refine Kd.R_append Kd.string (w0 := w) w.heap.size rfl (.tmp 20) (.tmp 22) 53 9 (.string ⟨#[]⟩) 16 rfl Try.underlying53 info9 rfl (by decide) (by omega) u4 x4_1 t237 [.string t237] (fun k_ => some k_ ≠ (u3 : Value).ownBlock) (fun _ => False) rfl rfl ?aP (fun _ hk => hk.elim) ?aF ?aO ?aB ?aS ?aL ?_; (case aP => exact rfl); (case aB => exact (by repeat (first | (with_reducible first | exact HB.out | apply below_alloc | apply pw_below_drewN | apply below_drew1) | exact HB.out))); (case aF => exact (fun k_ hk => Kd.fresh' (Kd.R_lt (by (with_reducible repeat (first | apply Kd.R_alloc | apply Kd.R_drewN | apply Kd.R_drew)); exact HO_3.out)) k_ hk)); (case aO => exact (by (with_reducible repeat (first | apply Kd.R_alloc | apply Kd.R_drewN | apply Kd.R_drew)); exact HO_4.out)); (case aS => exact (below_size (by repeat (first | (with_reducible first | exact HB.out | apply below_alloc | apply pw_below_drewN | apply below_drew1) | exact HB.out)))); (case aL => have := LMc5.out; omega); intro v239 w10 ho hb hg hat; rw [← Ny238.out] at ho; have n0_ := Aside0.mk (Kd.R_after (ok := (fun _ => True)) (by (with_reducible repeat (first | apply Kd.R_alloc | apply Kd.R_drewN | apply Kd.R_drew)); exact Kd.R_mono HO_3.out (fun _ hk => ⟨trivial, hk⟩)) hg hat); have n1_ := Aside0.mk (hb); have n2_ := Aside0.mk (ho); clear HO_3; clear HB; clear HO_4; have HO_3 := n0_; have HB := n1_; have HO240 := n2_; clear n0_ n1_ n2_; clear ho hb hg hat; have p241 : 0 ≤ (x6_1 : Int) := of_decide_eq_true (by first | (with_reducible assumption) | assumption); have q241 : x6_1 < (l0.length : Int) := of_decide_eq_true (by first | (with_reducible assumption) | assumption); obtain ⟨ad241, e241, hx241_0, hx241_1⟩ := at_T26 HR0.out x6_1 p241 q241; obtain rfl : ad236 = ad241 := (by injection e241); replace hx241_0 := (HB.out.cell (World.block_lt_of_cell? w _ hx241_0)).trans hx241_0; replace hx241_1 := (HB.out.cell (World.block_lt_of_cell? w _ hx241_1)).trans hx241_1; replace p241 := eq_true p241; replace q241 := eq_true q241) | ((with_reducible refine gate_callee (f := 42) rfl ?_); refine goesL_ (some 28) rfl rfl Try.func42 (by kernel_rfl) rfl #[.agg #[.string ((rd_T26 l0 x6_1).f0), .string ((rd_T26 l0 x6_1).f1)]] rfl (by (try simp only [List.map_toArray, List.map_cons, List.map_nil]); first | done | rfl | (simp only [List.length_drop, List.length_take]; rfl)) ?_; (with_reducible refine (lockkeeperref7_Header.calls k1 ((rd_T26 l0 x6_1).f0) ((rd_T26 l0 x6_1).f1) true _ A6.out).mono ?_); rintro e w11 ⟨rfl, hb⟩; refine ⟨_, rfl, ?_⟩; have n0_ := Aside0.mk (Kd.R_below (by (with_reducible repeat (first | apply Kd.R_alloc | apply Kd.R_drewN | apply Kd.R_drew)); exact HO_3.out) hb); have n1_ := Aside0.mk (Kd.R_below (by (with_reducible repeat (first | apply Kd.R_alloc | apply Kd.R_drewN | apply Kd.R_drew)); exact HO240.out) hb); have n2_ := Aside0.mk (below_step (by repeat (first | (with_reducible first | exact HB.out | apply below_alloc | apply pw_below_drewN | apply below_drew1) | exact HB.out)) hb); clear HO_3; clear HO240; clear HB; have HO_3 := n0_; have HO240 := n1_; have HB := n2_; clear n0_ n1_ n2_; (try clear hb); (try clear hb2); (try clear hk); (try clear hi); have p243 : 0 ≤ (x6_1 : Int) := of_decide_eq_true (by first | (with_reducible assumption) | assumption); have q243 : x6_1 < (l0.length : Int) := of_decide_eq_true (by first | (with_reducible assumption) | assumption); obtain ⟨ad243, e243, hx243_0, hx243_1⟩ := at_T26 HR0.out x6_1 p243 q243; obtain rfl : ad236 = ad243 := (by injection e243); replace hx243_0 := (HB.out.cell (World.block_lt_of_cell? w _ hx243_0)).trans hx243_0; replace hx243_1 := (HB.out.cell (World.block_lt_of_cell? w _ hx243_1)).trans hx243_1; replace p243 := eq_true p243; replace q243 := eq_true q243) | ((with_reducible refine gate_callee (f := 67) rfl ?_); refine goesL_ (some 40) rfl rfl Try.func67 (by kernel_rfl) rfl #[.string ((rd_T26 l0 x6_1).f1)] rfl (by (try simp only [List.map_toArray, List.map_cons, List.map_nil]); first | done | rfl | (simp only [List.length_drop, List.length_take]; rfl)) ?_; (with_reducible refine (lockkeeperref1_Trim.calls k1 ((rd_T26 l0 x6_1).f1) t244 _ A8.out).mono ?_); rintro e w' ⟨rfl, ⟨nd, rfl⟩⟩; refine ⟨_, rfl, ?_⟩))
       go_roundg k1
       case measure => have := HK1.out; omega
       case rel => exact ⟨(x3_1), (y238), (wrap64 (x5_1 + (t244.size : Int))), (wrap64 (x6_1 + 1)), (by first | rfl | (simp; done) | (simp [*]; done)), (by first | rfl | (simp; done) | (simp [*]; done)), H', ⟨by have := HK1.out; omega⟩, ⟨by (with_reducible repeat (first | apply Kd.R_alloc | apply Kd.R_drewN | apply Kd.R_drew)); exact Kd.R_mono HO_3.out (fun _ hk => hk.2)⟩, ⟨by (with_reducible repeat (first | apply Kd.R_alloc | apply Kd.R_drewN | apply Kd.R_drew)); exact HO240.out⟩, ⟨by repeat (first | (with_reducible first | exact HB.out | apply below_alloc | apply pw_below_drewN | apply below_drew1) | exact HB.out)⟩⟩
      ·replace c7 := Bool.eq_false_iff.mpr c7
       subst c7
       have H1 : (if x3_1.length < 8796093022208 then (lockkeeperref7_Names.l0 k1 l0 (x3_1 ++ [t237]) y238 x5_1 (wrap64 (x6_1 + 1))) else (none)) = some r := by rw [if_neg (show ¬ (false = true) by decide)] at H; exact H
       clear H
       have H := H1
       clear H1
       by_cases c12 : x3_1.length < 8796093022208
       ·rw [if_pos c12] at H
        have LMc12 := Aside0.mk c12
        clear c12
        obtain ⟨y245, hy245⟩ : ∃ y_ : List ByteArray, y_ = (x3_1 ++ [t237]) := ⟨_, rfl⟩
        replace H : (lockkeeperref7_Names.l0 k1 l0 y245 y238 x5_1 (wrap64 (x6_1 + 1))) = some r := by first | (rw [hy245]; with_reducible exact H) | (have H2_ := (Option.bind_some _ _).symm.trans H; rw [hy245]; with_reducible exact H2_) | (have H2_ := (Option.bind_some _ _).symm.trans H; with_reducible exact H2_) | with_reducible exact H | (rw [hy245]; exact H) | exact H
        have Ny245 := Aside0.mk hy245
        clear hy245
        have H' := Aside0.mk H
        clear H
        have p236 : 0 ≤ (x6_1 : Int) := of_decide_eq_true (by first | (with_reducible assumption) | assumption)
        have q236 : x6_1 < (l0.length : Int) := of_decide_eq_true (by first | (with_reducible assumption) | assumption)
        obtain ⟨ad236, e236, hx236_0, hx236_1⟩ := at_T26 HR0.out x6_1 p236 q236
        cases e236
        replace hx236_0 := (HB.out.cell (World.block_lt_of_cell? w _ hx236_0)).trans hx236_0
        replace hx236_1 := (HB.out.cell (World.block_lt_of_cell? w _ hx236_1)).trans hx236_1
        replace p236 := eq_true p236
        replace q236 := eq_true q236
        go_wp2_with (first | ((with_reducible refine gate_callee (f := 69) rfl ?_); refine goesL_ (some 19) rfl rfl Try.func69 (by kernel_rfl) rfl #[.string ((rd_T26 l0 x6_1).f0)] rfl (by (try simp only [List.map_toArray, List.map_cons, List.map_nil]); first | done | rfl | (simp only [List.length_drop, List.length_take]; rfl)) ?_; (with_reducible refine (lockkeeperref1_Lower.calls ((rd_T26 l0 x6_1).f0) t237 _ A4.out).mono ?_); rintro e w13 ⟨rfl, hb⟩; refine ⟨_, rfl, ?_⟩; have n0_ := Aside0.mk (Kd.R_below (by (with_reducible repeat (first | apply Kd.R_alloc | apply Kd.R_drewN | apply Kd.R_drew)); exact HO_3.out) hb); have n1_ := Aside0.mk (Kd.R_below (by (with_reducible repeat (first | apply Kd.R_alloc | apply Kd.R_drewN | apply Kd.R_drew)); exact HO_4.out) hb); have n2_ := Aside0.mk (below_step (by repeat (first | (with_reducible first | exact HB.out | apply below_alloc | apply pw_below_drewN | apply below_drew1) | exact HB.out)) hb); clear HO_3; clear HO_4; clear HB; have HO_3 := n0_; have HO_4 := n1_; have HB := n2_; clear n0_ n1_ n2_; (try clear hb); (try clear hb2); (try clear hk); (try clear hi)) | ((with_reducible refine gate_builtin (b := .append) (xs := #[.tmp 20, .tmp 22]) rfl ?_); at_builtin; refine Kd.R_append Kd.string (w0 := w) w.heap.size rfl (.tmp 20) (.tmp 22) 53 9 (.string ⟨#[]⟩) 16 rfl Try.underlying53 info9 rfl (by decide) (by omega) u4 x4_1 t237 [.string t237] (fun k_ => some k_ ≠ (u3 : Value).ownBlock) (fun _ => False) rfl rfl ?aP (fun _ hk => hk.elim) ?aF ?aO ?aB ?aS ?aL ?_; (case aP => exact rfl); (case aB => exact (by repeat (first | (with_reducible first | exact HB.out | apply below_alloc | apply pw_below_drewN | apply below_drew1) | exact HB.out))); (case aF => exact (fun k_ hk => Kd.fresh' (Kd.R_lt (by (with_reducible repeat (first | apply Kd.R_alloc | apply Kd.R_drewN | apply Kd.R_drew)); exact HO_3.out)) k_ hk)); (case aO => exact (by (with_reducible repeat (first | apply Kd.R_alloc | apply Kd.R_drewN | apply Kd.R_drew)); exact HO_4.out)); (case aS => exact (below_size (by repeat (first | (with_reducible first | exact HB.out | apply below_alloc | apply pw_below_drewN | apply below_drew1) | exact HB.out)))); (case aL => have := LMc5.out; omega); intro v239 w14 ho hb hg hat; rw [← Ny238.out] at ho; have n0_ := Aside0.mk (Kd.R_after (ok := (fun _ => True)) (by (with_reducible repeat (first | apply Kd.R_alloc | apply Kd.R_drewN | apply Kd.R_drew)); exact Kd.R_mono HO_3.out (fun _ hk => ⟨trivial, hk⟩)) hg hat); have n1_ := Aside0.mk (hb); have n2_ := Aside0.mk (ho); clear HO_3; clear HB; clear HO_4; have HO_3 := n0_; have HB := n1_; have HO240 := n2_; clear n0_ n1_ n2_; clear ho hb hg hat; have p241 : 0 ≤ (x6_1 : Int) := of_decide_eq_true (by first | (with_reducible assumption) | assumption); have q241 : x6_1 < (l0.length : Int) := of_decide_eq_true (by first | (with_reducible assumption) | assumption); obtain ⟨ad241, e241, hx241_0, hx241_1⟩ := at_T26 HR0.out x6_1 p241 q241; obtain rfl : ad236 = ad241 := (by injection e241); replace hx241_0 := (HB.out.cell (World.block_lt_of_cell? w _ hx241_0)).trans hx241_0; replace hx241_1 := (HB.out.cell (World.block_lt_of_cell? w _ hx241_1)).trans hx241_1; replace p241 := eq_true p241; replace q241 := eq_true q241) | ((with_reducible refine gate_callee (f := 42) rfl ?_); refine goesL_ (some 28) rfl rfl Try.func42 (by kernel_rfl) rfl #[.agg #[.string ((rd_T26 l0 x6_1).f0), .string ((rd_T26 l0 x6_1).f1)]] rfl (by (try simp only [List.map_toArray, List.map_cons, List.map_nil]); first | done | rfl | (simp only [List.length_drop, List.length_take]; rfl)) ?_; (with_reducible refine (lockkeeperref7_Header.calls k1 ((rd_T26 l0 x6_1).f0) ((rd_T26 l0 x6_1).f1) false _ A6.out).mono ?_); rintro e w15 ⟨rfl, hb⟩; refine ⟨_, rfl, ?_⟩; have n0_ := Aside0.mk (Kd.R_below (by (with_reducible repeat (first | apply Kd.R_alloc | apply Kd.R_drewN | apply Kd.R_drew)); exact HO_3.out) hb); have n1_ := Aside0.mk (Kd.R_below (by (with_reducible repeat (first | apply Kd.R_alloc | apply Kd.R_drewN | apply Kd.R_drew)); exact HO240.out) hb); have n2_ := Aside0.mk (below_step (by repeat (first | (with_reducible first | exact HB.out | apply below_alloc | apply pw_below_drewN | apply below_drew1) | exact HB.out)) hb); clear HO_3; clear HO240; clear HB; have HO_3 := n0_; have HO240 := n1_; have HB := n2_; clear n0_ n1_ n2_; (try clear hb); (try clear hb2); (try clear hk); (try clear hi)) | ((with_reducible refine gate_builtin (b := .append) (xs := #[.tmp 30, .tmp 32]) rfl ?_); at_builtin; refine Kd.R_append Kd.string (w0 := w) w.heap.size rfl (.tmp 30) (.tmp 32) 53 9 (.string ⟨#[]⟩) 16 rfl Try.underlying53 info9 rfl (by decide) (by omega) u3 x3_1 t237 [.string t237] (fun k_ => some k_ ≠ (v239 : Value).ownBlock) (fun _ => False) rfl rfl ?aP (fun _ hk => hk.elim) ?aF ?aO ?aB ?aS ?aL ?_; (case aP => exact rfl); (case aB => exact (by repeat (first | (with_reducible first | exact HB.out | apply below_alloc | apply pw_below_drewN | apply below_drew1) | exact HB.out))); (case aF => exact (fun k_ hk => Kd.fresh' (Kd.R_lt (by (with_reducible repeat (first | apply Kd.R_alloc | apply Kd.R_drewN | apply Kd.R_drew)); exact HO240.out)) k_ hk)); (case aO => exact (by (with_reducible repeat (first | apply Kd.R_alloc | apply Kd.R_drewN | apply Kd.R_drew)); exact Kd.R_mono HO_3.out (fun _ hk => hk.2))); (case aS => exact (below_size (by repeat (first | (with_reducible first | exact HB.out | apply below_alloc | apply pw_below_drewN | apply below_drew1) | exact HB.out)))); (case aL => have := LMc12.out; omega); intro v246 w16 ho hb hg hat; rw [← Ny245.out] at ho; have n0_ := Aside0.mk (Kd.R_after (ok := (fun _ => True)) (by (with_reducible repeat (first | apply Kd.R_alloc | apply Kd.R_drewN | apply Kd.R_drew)); exact Kd.R_mono HO240.out (fun _ hk => ⟨trivial, hk⟩)) hg hat); have n1_ := Aside0.mk (hb); have n2_ := Aside0.mk (ho); clear HO240; clear HB; clear HO_3; have HO240 := n0_; have HB := n1_; have HO247 := n2_; clear n0_ n1_ n2_; clear ho hb hg hat))
        go_roundg k1
        case measure => have := HK1.out; omega
        case rel => exact ⟨(y245), (y238), (x5_1), (wrap64 (x6_1 + 1)), (by first | rfl | (simp; done) | (simp [*]; done)), (by first | rfl | (simp; done) | (simp [*]; done)), H', ⟨by have := HK1.out; omega⟩, ⟨by (with_reducible repeat (first | apply Kd.R_alloc | apply Kd.R_drewN | apply Kd.R_drew)); exact HO247.out⟩, ⟨by (with_reducible repeat (first | apply Kd.R_alloc | apply Kd.R_drewN | apply Kd.R_drew)); exact Kd.R_mono HO240.out (fun _ hk => hk.2)⟩, ⟨by repeat (first | (with_reducible first | exact HB.out | apply below_alloc | apply pw_below_drewN | apply below_drew1) | exact HB.out)⟩⟩
       ·rw [if_neg c12] at H
        exact absurd H (by simp)
     ·rw [if_neg c5] at H
      exact absurd H (by simp)
    ·rw [if_neg c3] at H
     exact absurd H (by simp)
   ·rw [if_neg c2] at H
    have c2b0 : decide (x6_1 < (l0.length : Int)) = false := decide_eq_false c2
    clear c2
    by_cases c17 : x5_1 > 1024
    ·rw [if_pos c17] at H
     have c17b0 : decide (1024 < x5_1) = true := decide_eq_true c17
     clear c17
     replace H := Option.bind_eq_some_iff.mp H
     obtain ⟨t248, A180, H⟩ := H
     replace H : (some t248) = some r := H
     have A18 := Aside0.mk A180
     clear A180
     obtain rfl := Option.some.inj H
     obtain ⟨Ao19, co19, eo19⟩ := Kd.R_slice HO_4.out
     subst eo19
     go_wp2_with (first | ((with_reducible refine gate_callee (f := 73) rfl ?_); refine goesL_ (some 46) rfl rfl Try.func73 (by kernel_rfl) rfl #[.slice Ao19 x4_1.length co19] rfl (by (try simp only [List.map_toArray, List.map_cons, List.map_nil]); first | done | rfl | (simp only [List.length_drop, List.length_take]; rfl)) ?_; (with_reducible refine (lockkeeperref1_Rising.calls k1 _ _ x4_1 t248 _ ?side1 ?side2 A18.out).mono ?_); (case side1 => repeat (first | exact (Kd.R_reads' HO_4.out).2.2 | (with_reducible refine Kd.C_alloc ?_ _) | (with_reducible refine Kd.C_drewN ?_ _) | (with_reducible refine Kd.C_drew ?_))); (case side2 => exact (Kd.R_reads' HO_4.out).2.1); rintro e w20 ⟨v249, rfl, ho0, hb⟩; refine ⟨_, rfl, ?_⟩; have n0_ := Aside0.mk (Kd.R_elder' (by (with_reducible repeat (first | apply Kd.R_alloc | apply Kd.R_drewN | apply Kd.R_drew)); exact HO_3.out) (Kd.R_base ho0) hb); have n1_ := Aside0.mk (Kd.R_elder' (by (with_reducible repeat (first | apply Kd.R_alloc | apply Kd.R_drewN | apply Kd.R_drew)); exact HO_4.out) (Kd.R_base ho0) hb); have n2_ := Aside0.mk (Kd.R_lower (Kd.R_new' (Kd.R_new' ho0 (Kd.R_lt (by (with_reducible repeat (first | apply Kd.R_alloc | apply Kd.R_drewN | apply Kd.R_drew)); exact HO_3.out))) (Kd.R_lt (by (with_reducible repeat (first | apply Kd.R_alloc | apply Kd.R_drewN | apply Kd.R_drew)); exact HO_4.out))) (below_size (by repeat (first | (with_reducible first | exact HB.out | apply below_alloc | apply pw_below_drewN | apply below_drew1) | exact HB.out)))); have n3_ := Aside0.mk (below_step (by repeat (first | (with_reducible first | exact HB.out | apply below_alloc | apply pw_below_drewN | apply below_drew1) | exact HB.out)) hb); clear HO_3; clear HO_4; clear HB; have HO_3 := n0_; have HO_4 := n1_; have HO250 := n2_; have HB := n3_; clear n0_ n1_ n2_ n3_; (try clear hb); (try clear hb2); (try clear hk); (try clear hi); (try clear ho0)))
     go_ret
     exact ⟨_, by first | rfl | (simp [errW_none, errW_some] <;> rfl) | (simp [*, errW_none, errW_some] <;> rfl), by (with_reducible repeat (first | apply Kd.R_alloc | apply Kd.R_drewN | apply Kd.R_drew)); exact Kd.R_mono HO250.out (fun _ hk => trivial), by repeat (first | (with_reducible first | exact HB.out | apply below_alloc | apply pw_below_drewN | apply below_drew1) | exact HB.out)⟩
    ·rw [if_neg c17] at H
     have c17b0 : decide (1024 < x5_1) = false := decide_eq_false c17
     clear c17
     replace H := Option.bind_eq_some_iff.mp H
     obtain ⟨t251, A210, H⟩ := H
     replace H : (some t251) = some r := H
     have A21 := Aside0.mk A210
     clear A210
     obtain rfl := Option.some.inj H
     obtain ⟨Ao22, co22, eo22⟩ := Kd.R_slice HO_3.out
     subst eo22
     go_wp2_with (first | ((with_reducible refine gate_callee (f := 73) rfl ?_); refine goesL_ (some 48) rfl rfl Try.func73 (by kernel_rfl) rfl #[.slice Ao22 x3_1.length co22] rfl (by (try simp only [List.map_toArray, List.map_cons, List.map_nil]); first | done | rfl | (simp only [List.length_drop, List.length_take]; rfl)) ?_; (with_reducible refine (lockkeeperref1_Rising.calls k1 _ _ x3_1 t251 _ ?side1 ?side2 A21.out).mono ?_); (case side1 => repeat (first | exact (Kd.R_reads' HO_3.out).2.2 | (with_reducible refine Kd.C_alloc ?_ _) | (with_reducible refine Kd.C_drewN ?_ _) | (with_reducible refine Kd.C_drew ?_))); (case side2 => exact (Kd.R_reads' HO_3.out).2.1); rintro e w23 ⟨v252, rfl, ho0, hb⟩; refine ⟨_, rfl, ?_⟩; have n0_ := Aside0.mk (Kd.R_elder' (by (with_reducible repeat (first | apply Kd.R_alloc | apply Kd.R_drewN | apply Kd.R_drew)); exact HO_3.out) (Kd.R_base ho0) hb); have n1_ := Aside0.mk (Kd.R_elder' (by (with_reducible repeat (first | apply Kd.R_alloc | apply Kd.R_drewN | apply Kd.R_drew)); exact HO_4.out) (Kd.R_base ho0) hb); have n2_ := Aside0.mk (Kd.R_lower (Kd.R_new' (Kd.R_new' ho0 (Kd.R_lt (by (with_reducible repeat (first | apply Kd.R_alloc | apply Kd.R_drewN | apply Kd.R_drew)); exact HO_3.out))) (Kd.R_lt (by (with_reducible repeat (first | apply Kd.R_alloc | apply Kd.R_drewN | apply Kd.R_drew)); exact HO_4.out))) (below_size (by repeat (first | (with_reducible first | exact HB.out | apply below_alloc | apply pw_below_drewN | apply below_drew1) | exact HB.out)))); have n3_ := Aside0.mk (below_step (by repeat (first | (with_reducible first | exact HB.out | apply below_alloc | apply pw_below_drewN | apply below_drew1) | exact HB.out)) hb); clear HO_3; clear HO_4; clear HB; have HO_3 := n0_; have HO_4 := n1_; have HO253 := n2_; have HB := n3_; clear n0_ n1_ n2_ n3_; (try clear hb); (try clear hb2); (try clear hk); (try clear hi); (try clear ho0)))
     go_ret
     exact ⟨_, by first | rfl | (simp [errW_none, errW_some] <;> rfl) | (simp [*, errW_none, errW_some] <;> rfl), by (with_reducible repeat (first | apply Kd.R_alloc | apply Kd.R_drewN | apply Kd.R_drew)); exact Kd.R_mono HO253.out (fun _ hk => trivial), by repeat (first | (with_reducible first | exact HB.out | apply below_alloc | apply pw_below_drewN | apply below_drew1) | exact HB.out)⟩

end Go.Proofs.Ytojcceafgkdchaa.Pr
