-- Made by a program of this session (wip/xp/xp.py), over the print's words.
import Derived.Test.YtfmajangcbgooaaGreatDoorPr0
import Derived.Test.YtfmajangcbgooaaGreatDoorK0
import Derived.Test.YtfmajangcbgooaaGreatDoorPr4
import Derived.Test.YtfmajangcbgooaaGreatDoorPr6
import Derived.Test.YtfmajangcbgooaaGreatDoorPr7
import Derived.Test.YtfmajangcbgooaaGreatDoorPr9
import Derived.Test.YtfmajangcbgooaaGreatDoorPr10
import Derived.Test.YtfmajangcbgooaaGreatDoorPr11
import Derived.Test.YtfmajangcbgooaaGreatDoorPr12
import Derived.Test.YtfmajangcbgooaaGreatDoorG1
import Derived.Test.YtfmajangcbgooaaGreatDoorG2
import Derived.Test.YtfmajangcbgooaaGreatDoorG5
namespace Go.Proofs.YtfmajangcbgooaaGreatDoor.Pr
open Go.RowKit Go.Proofs.YtfmajangcbgooaaGreatDoorW.PrintWords Go.Proofs.YtfmajangcbgooaaGreatDoorW.PrintLast Go.Proofs.YtfmajangcbgooaaGreatDoorW.PrintMore
attribute [local go_sem] max2_int min2_int max_two min_two max_three min_three max_four min_four   -- for this text's walks alone
set_option linter.unusedVariables false
set_option linter.unusedSimpArgs false

attribute [local go_sem high] eqA70
/-! ### safe_Names: function 65 -/
def safe_Names.l0 : Nat → List ByteArray → List ByteArray → Int → List (S28) → Int → Int → Option (List ByteArray)
 | 0, _, _, _, _, _, _ => none
 | k + 1, x3, x4, x5, x8, x9, x10 => if x10 < x9 then (if 0 ≤ x10 then (if x10 < (x8.length : Int) then ((safe_Header.f k ((rd_T28 x8 x10).f0) ((rd_T28 x8 x10).f1)).bind fun t245 => (if t245 = true then ((octet_Trim.f k ((rd_T28 x8 x10).f1)).bind fun t246 => ((octet_Lower.f ((rd_T28 x8 x10).f0)).bind fun t247 => (if x4.length < 8796093022208 then (safe_Names.l0 k x3 (x4 ++ [t247]) (wrap64 (x5 + (t246.size : Int))) x8 x9 (wrap64 (x10 + 1))) else (none)))) else ((octet_Lower.f ((rd_T28 x8 x10).f0)).bind fun t251 => (if x3.length < 8796093022208 then (safe_Names.l0 k (x3 ++ [t251]) x4 x5 x8 x9 (wrap64 (x10 + 1))) else (none))))) else (none)) else (none)) else (if x5 > 1024 then (if x3.length + x4.length < 8796093022208 then ((slices_Sort_string_string.f (x3 ++ x4)).bind fun t258 => ((slices_Compact_string_string.f t258).bind fun t259 => (some t259))) else (none)) else ((slices_Sort_string_string.f x3).bind fun t262 => ((slices_Compact_string_string.f t262).bind fun t263 => (some t263))))
def safe_Names.f (k : Nat) (l0 : List (S28)) : Option (List ByteArray) := safe_Names.l0 k ([] : List ByteArray) ([] : List ByteArray) 0 l0 (l0.length : Int) 0
theorem safe_Names.mono_l : ∀ k, (∀ y0 y1 y2 y3 y4 y5, LeO (safe_Names.l0 k y0 y1 y2 y3 y4 y5) (safe_Names.l0 (k + 1) y0 y1 y2 y3 y4 y5))
 | 0 => fun _ _ _ _ _ _ r h => by simp [safe_Names.l0] at h
 | k + 1 => by
  have ih0 := safe_Names.mono_l k
  ·intros
   have hm0 := @octet_Trim.mono; have hm1 := @safe_Header.mono; unfold safe_Names.l0
   exact moE

theorem safe_Names.mono : ∀ a0 k, LeO (safe_Names.f k a0) (safe_Names.f (k + 1) a0) := by
 intro a0 k
 have ih0 := safe_Names.mono_l k
 have hm0 := @octet_Trim.mono; have hm1 := @safe_Header.mono; unfold safe_Names.f
 exact moE

set_option maxHeartbeats 8000000 in
set_option maxRecDepth 100000 in
theorem safe_Names.calls (k : Nat) (A0 : Option Addr) (c0 : Nat) (l0 : List (S28)) (r : List ByteArray) (w : World) (hr0 : Kd.C k28 w A0 l0.length l0) (hc0 : l0.length ≤ c0) (hM_ : Aside0 (LaidW w)) (h : safe_Names.f k l0 = some r) :
  Calls Tryz.prog 65 #[.slice A0 l0.length c0] w fun e w' => ∃ v0_ : Value, e = .returned (v0_) ∧ Kd.R Kd.string 9 w' w.heap.size (fun _ => True) v0_ r ∧ Below w.heap.size w w' := by
 have hu28 := Tryz.underlying28
 have HR1 := Aside0.mk hr0
 have HC1 := Aside0.mk hc0
 clear hr0 hc0
 have HB := Aside0.mk (Below.refl w.heap.size w)
 have H : (safe_Names.l0 k ([] : List ByteArray) ([] : List ByteArray) 0 l0 (l0.length : Int) 0) = some r := h
 clear h
 have H' := Aside0.mk H
 clear H
 go_enter Tryz.func65, Tryz.ntmps65
 go_wp2
 go_loopg [3, 4, 5, 10] k (fun kq v3s1 v3s2 v3s3 v3s4 w' => ∃ (x3_1 : List ByteArray) (x4_1 : List ByteArray) (x5_1 : Int) (x10_1 : Int), v3s3 = .int .i64 x5_1 ∧ v3s4 = .int .i64 x10_1 ∧ Aside0 (safe_Names.l0 kq x3_1 x4_1 x5_1 l0 (l0.length : Int) x10_1 = some r) ∧ Aside0 (kq ≤ k) ∧ Aside0 (Kd.R Kd.string 9 w' w.heap.size (fun k_ => some k_ ≠ (v3s2 : Value).ownBlock) v3s1 x3_1) ∧ Aside0 (Kd.R Kd.string 9 w' w.heap.size (fun k_ => some k_ ≠ (v3s1 : Value).ownBlock) v3s2 x4_1) ∧ Aside0 (Below w.heap.size w w'))
 case atStart => exact ⟨(([] : List ByteArray)), (([] : List ByteArray)), (0), (0), rS, rS, H', ⟨Nat.le_refl _⟩, ⟨by first | exact Kd.R_nil _ _ _ _ _ | exact Kd.N_nil _ _ _ _ _ | exact Kd.V_nil _ _ _ _ _ | exact Kd.Q_nil _ _ _ _ _ | exact Kd.S_nil _ _ _ _ _⟩, ⟨by first | exact Kd.R_nil _ _ _ _ _ | exact Kd.N_nil _ _ _ _ _ | exact Kd.V_nil _ _ _ _ _ | exact Kd.Q_nil _ _ _ _ _ | exact Kd.S_nil _ _ _ _ _⟩, ⟨bE⟩⟩
 case round =>
  clear H'
  obtain ⟨x3_1, x4_1, x5_1, x10_1, rfl, rfl, HA, HK1, HO_3, HO_4, HB⟩ := hrel
  cases gk with
  | zero => exact absurd HA.out (by simp [safe_Names.l0])
  | succ k1 =>
   have H := HA.out
   clear HA
   simp only [safe_Names.l0] at H
   refine em_ (x10_1 < (l0.length : Int)) (fun c2 => ?g1p) (fun c2 => ?g1n)
   case' g1p =>
    rw [if_pos c2] at H
    have c2b0 : decide (x10_1 < (l0.length : Int)) = true := decide_eq_true c2
    clear c2
    replace H := iteN_ H; obtain ⟨c3, H⟩ := H
    have c3b0 : decide (0 ≤ x10_1) = true := decide_eq_true c3
    clear c3
    replace H := iteN_ H; obtain ⟨c4, H⟩ := H
    have c4b0 : decide (x10_1 < (l0.length : Int)) = true := decide_eq_true c4
    clear c4
    replace H := bd_ H; obtain ⟨t1, A5, H⟩ := H
    refine em_ (t1 = true) (fun c6 => ?g2p) (fun c6 => ?g2n)
    case' g2p =>
     subst c6
     replace H := ifT_ H
     replace H := bd_ H; obtain ⟨t2, A7, H⟩ := H
     replace H := bd_ H; obtain ⟨t3, A8, H⟩ := H
     replace H := iteN_ H; obtain ⟨c9, H⟩ := H
     have LMc9 := Aside0.mk c9
     clear c9
     obtain ⟨y10, hy10⟩ : ∃ y_ : List ByteArray, y_ = (x4_1 ++ [t3]) := ⟨_, rfl⟩
     replace H : (safe_Names.l0 k1 x3_1 y10 (wrap64 (x5_1 + (t2.size : Int))) l0 (l0.length : Int) (wrap64 (x10_1 + 1))) = some r := by first | (rw [hy10]; with_reducible exact H) | (have H2_ := (Option.bind_some _ _).symm.trans H; rw [hy10]; with_reducible exact H2_) | (have H2_ := (Option.bind_some _ _).symm.trans H; with_reducible exact H2_) | with_reducible exact H | (rw [hy10]; exact H) | exact H
     have Ny10 := Aside0.mk hy10
     clear hy10
     have H' := Aside0.mk H
     clear H
     have p11 : 0 ≤ (x10_1 : Int) := of_decide_eq_true mE
     have q11 : x10_1 < (l0.length : Int) := of_decide_eq_true mE
     obtain ⟨ad11, e4, hx11_0, hx11_1⟩ := at_T28 HR1.out x10_1 p11 q11
     cases e4
     replace hx11_0 := (HB.out.cell (World.block_lt_of_cell? w _ hx11_0)).trans hx11_0
     replace hx11_1 := (HB.out.cell (World.block_lt_of_cell? w _ hx11_1)).trans hx11_1
     replace p11 := eq_true p11
     replace q11 := eq_true q11
     have M4_0 := trivial; have M5_0 := trivial
    case' g2n =>
     replace c6 := Bool.eq_false_iff.mpr c6
     subst c6
     replace H := ifF_ H
     replace H := bd_ H; obtain ⟨t2, A7, H⟩ := H
     replace H := iteN_ H; obtain ⟨c8, H⟩ := H
     have LMc8 := Aside0.mk c8
     clear c8
     obtain ⟨y9, hy9⟩ : ∃ y_ : List ByteArray, y_ = (x3_1 ++ [t2]) := ⟨_, rfl⟩
     replace H : (safe_Names.l0 k1 y9 x4_1 x5_1 l0 (l0.length : Int) (wrap64 (x10_1 + 1))) = some r := by first | (rw [hy9]; with_reducible exact H) | (have H2_ := (Option.bind_some _ _).symm.trans H; rw [hy9]; with_reducible exact H2_) | (have H2_ := (Option.bind_some _ _).symm.trans H; with_reducible exact H2_) | with_reducible exact H | (rw [hy9]; exact H) | exact H
     have Ny9 := Aside0.mk hy9
     clear hy9
     have H' := Aside0.mk H
     clear H
     have p10 : 0 ≤ (x10_1 : Int) := of_decide_eq_true mE
     have q10 : x10_1 < (l0.length : Int) := of_decide_eq_true mE
     obtain ⟨ad10, e3, hx10_0, hx10_1⟩ := at_T28 HR1.out x10_1 p10 q10
     cases e3
     replace hx10_0 := (HB.out.cell (World.block_lt_of_cell? w _ hx10_0)).trans hx10_0
     replace hx10_1 := (HB.out.cell (World.block_lt_of_cell? w _ hx10_1)).trans hx10_1
     replace p10 := eq_true p10
     replace q10 := eq_true q10
     have M4_0 := trivial; have M5_1 := trivial
   case' g1n =>
    rw [if_neg c2] at H
    have c2b0 : decide (x10_1 < (l0.length : Int)) = false := decide_eq_false c2
    clear c2
    refine em_ (x5_1 > 1024) (fun c3 => ?g3p) (fun c3 => ?g3n)
    case' g3p =>
     rw [if_pos c3] at H
     have c3b0 : decide (1024 < x5_1) = true := decide_eq_true c3
     clear c3
     replace H := iteN_ H; obtain ⟨c4, H⟩ := H
     have LMc4 := Aside0.mk c4
     clear c4
     obtain ⟨y5, hy5⟩ : ∃ y_ : List ByteArray, y_ = (x3_1 ++ x4_1) := ⟨_, rfl⟩
     replace H : ((slices_Sort_string_string.f y5).bind fun t1 => ((slices_Compact_string_string.f t1).bind fun t2 => (some t2))) = some r := by first | (rw [hy5]; with_reducible exact H) | (have H2_ := (Option.bind_some _ _).symm.trans H; rw [hy5]; with_reducible exact H2_) | (have H2_ := (Option.bind_some _ _).symm.trans H; with_reducible exact H2_) | with_reducible exact H | (rw [hy5]; exact H) | exact H
     have Ny5 := Aside0.mk hy5
     clear hy5
     replace H := bd_ H; obtain ⟨t1, A6, H⟩ := H
     replace H := bd_ H; obtain ⟨t2, A7, H⟩ := H
     obtain rfl := si_ H
     obtain ⟨Ao3, co3, eo3⟩ := Kd.R_slice HO_4.out
     subst eo3
     have M4_1 := trivial; have M6_0 := trivial
    case' g3n =>
     rw [if_neg c3] at H
     have c3b0 : decide (1024 < x5_1) = false := decide_eq_false c3
     clear c3
     replace H := bd_ H; obtain ⟨t1, A4, H⟩ := H
     replace H := bd_ H; obtain ⟨t2, A5, H⟩ := H
     obtain rfl := si_ H
     obtain ⟨Ao3, co3, eo3⟩ := Kd.R_slice HO_3.out
     subst eo3
     have M4_1 := trivial; have M6_1 := trivial
   all_goals
    go_wp2_with (first | ((with_reducible refine gate_dst (N := 7) rfl ?_); refine bxE (N := 7) (cs := #[.string (⟨#[]⟩ : ByteArray), .string (⟨#[]⟩ : ByteArray)]) (t := 28) fun gb1a1 hg w1a2 hbox hb => ?_; have BK1a1 := Aside0.mk (hbox); have GW1a1 := sE (w := w) hg; have GE1a1 := sE (w := w) hg; replace HO_3 := rM HO_3 hb; replace HO_4 := rM HO_4 hb; replace HB := bS bE hb; clear hb hbox hg; obtain ⟨z1a3_0, z1a3_1, zf1a3_0, zf1a3_1⟩ := bk2_ BK1a1) | ((with_reducible refine gate_callee (f := 121) rfl ?_); refine gL (some 15) Tryz.func121 #[.agg #[.string ((rd_T28 l0 x10_1).f0), .string ((rd_T28 l0 x10_1).f1)]] ?_; (with_reducible refine (safe_Header.calls k1 ((rd_T28 l0 x10_1).f0) ((rd_T28 l0 x10_1).f1) _ _ ?side1 A5.out).mono ?_); (case side1 => exact ⟨lE⟩); rintro e w2a1 ⟨rfl, hb⟩; refine ⟨_, rfl, ?_⟩; have n0_ := Aside0.mk (Kd.R_below (by (with_reducible repeat (first | apply Kd.R_alloc | apply Kd.R_drewN | apply Kd.R_drew)); exact (Kd.R_mono (Kd.R_far (p := ⟨gb1a1, 1, none⟩) (Kd.R_far (p := ⟨gb1a1, 0, none⟩) (Kd.R_types HO_3.out BK1a1.out (by decide)) (fun _ hk => hk.2) (.string ((rd_T28 l0 x10_1).f0))) (fun _ hk => hk.2) (.string ((rd_T28 l0 x10_1).f1))) (fun _ h_ => h_.1))) hb); have n1_ := Aside0.mk (Kd.R_below (by (with_reducible repeat (first | apply Kd.R_alloc | apply Kd.R_drewN | apply Kd.R_drew)); exact (Kd.R_mono (Kd.R_far (p := ⟨gb1a1, 1, none⟩) (Kd.R_far (p := ⟨gb1a1, 0, none⟩) (Kd.R_types HO_4.out BK1a1.out (by decide)) (fun _ hk => hk.2) (.string ((rd_T28 l0 x10_1).f0))) (fun _ hk => hk.2) (.string ((rd_T28 l0 x10_1).f1))) (fun _ h_ => h_.1))) hb); have n2_ := Aside0.mk (blk_below (g := gb1a1) (o := .cells #[.string ((rd_T28 l0 x10_1).f0), .string ((rd_T28 l0 x10_1).f1)] 28 (0, 0)) (kT) hb); have n3_ := bS bE hb; clear HO_3; clear HO_4; clear BK1a1; clear HB; have HO_3 := n0_; have HO_4 := n1_; have BK1a1 := n2_; have HB := n3_; clear n0_ n1_ n2_ n3_; (try clear hb); (try clear hb2); (try clear hk); (try clear hi); obtain ⟨z2a2_0, z2a2_1, zf2a2_0, zf2a2_1⟩ := bk2_ BK1a1) | ((with_reducible refine gate_callee (f := 77) rfl ?_); refine gL (some 19) Tryz.func77 #[.string ((rd_T28 l0 x10_1).f1)] ?_; (with_reducible refine (octet_Trim.calls k1 ((rd_T28 l0 x10_1).f1) _ _ A7.out).mono ?_); rintro e w' ⟨rfl, ⟨nd, rfl⟩⟩; refine ⟨_, rfl, ?_⟩) | ((with_reducible refine gate_callee (f := 95) rfl ?_); refine gL (some 25) Tryz.func95 #[.string ((rd_T28 l0 x10_1).f0)] ?_; (with_reducible refine (octet_Lower.calls ((rd_T28 l0 x10_1).f0) _ _ A8.out).mono ?_); rintro e w4a1 ⟨rfl, hb⟩; refine ⟨_, rfl, ?_⟩; replace HO_3 := rM HO_3 hb; replace HO_4 := rM HO_4 hb; replace BK1a1 := kM BK1a1 hb; replace HB := bS bE hb; (try clear hb)) | ((with_reducible refine gate_builtin (b := .append) (xs := #[.tmp 22, .tmp 26]) rfl ?_); at_builtin; refine Kd.R_append Kd.string (w0 := w) w.heap.size rfl (.tmp 22) (.tmp 26) 39 9 (.string ⟨#[]⟩) 16 rfl Tryz.underlying39 info9 rfl (by decide) (by omega) u4 x4_1 t3 [.string t3] (fun k_ => some k_ ≠ (u3 : Value).ownBlock) (fun _ => False) rfl rfl ?aP (fun _ hk => hk.elim) ?aF ?aO ?aB ?aS ?aL ?_; (case aP => exact rfl); (case aB => exact bE); (case aF => exact (fun k_ hk => Kd.fresh' (Kd.R_lt (rK HO_3.out)) k_ hk)); (case aO => exact (rK HO_4.out)); (case aS => exact (below_size bE)); (case aL => have := LMc9.out; omega); intro v5a1 w5a2 ho hb hg hat; rw [← Ny10.out] at ho; have n0_ := Aside0.mk (Kd.R_after (ok := (fun _ => True)) (rK (Kd.R_mono HO_3.out (fun _ hk => ⟨trivial, hk⟩))) hg hat); have n1_ := Aside0.mk (blk_grown (g := gb1a1) (o := .cells #[.string ((rd_T28 l0 x10_1).f0), .string ((rd_T28 l0 x10_1).f1)] 28 (0, 0)) (kC BK1a1) hg (Kd.R_ne HO_4.out BK1a1.out (by decide))); have n2_ := Aside0.mk (hb); have n3_ := Aside0.mk (ho); clear HO_3; clear BK1a1; clear HB; clear HO_4; have HO_3 := n0_; have BK1a1 := n1_; have HB := n2_; have HO5a3 := n3_; clear n0_ n1_ n2_ n3_; clear ho hb hg hat) | ((with_reducible refine gate_callee (f := 95) rfl ?_); refine gL (some 31) Tryz.func95 #[.string ((rd_T28 l0 x10_1).f0)] ?_; (with_reducible refine (octet_Lower.calls ((rd_T28 l0 x10_1).f0) _ _ A7.out).mono ?_); rintro e w6a1 ⟨rfl, hb⟩; refine ⟨_, rfl, ?_⟩; replace HO_3 := rM HO_3 hb; replace HO_4 := rM HO_4 hb; replace BK1a1 := kM BK1a1 hb; replace HB := bS bE hb; (try clear hb)) | ((with_reducible refine gate_builtin (b := .append) (xs := #[.tmp 28, .tmp 32]) rfl ?_); at_builtin; refine Kd.R_append Kd.string (w0 := w) w.heap.size rfl (.tmp 28) (.tmp 32) 39 9 (.string ⟨#[]⟩) 16 rfl Tryz.underlying39 info9 rfl (by decide) (by omega) u3 x3_1 t2 [.string t2] (fun k_ => some k_ ≠ (u4 : Value).ownBlock) (fun _ => False) rfl rfl ?aP (fun _ hk => hk.elim) ?aF ?aO ?aB ?aS ?aL ?_; (case aP => exact rfl); (case aB => exact bE); (case aF => exact (fun k_ hk => Kd.fresh' (Kd.R_lt (rK HO_4.out)) k_ hk)); (case aO => exact (rK HO_3.out)); (case aS => exact (below_size bE)); (case aL => have := LMc8.out; omega); intro v7a1 w7a2 ho hb hg hat; rw [← Ny9.out] at ho; have n0_ := Aside0.mk (Kd.R_after (ok := (fun _ => True)) (rK (Kd.R_mono HO_4.out (fun _ hk => ⟨trivial, hk⟩))) hg hat); have n1_ := Aside0.mk (blk_grown (g := gb1a1) (o := .cells #[.string ((rd_T28 l0 x10_1).f0), .string ((rd_T28 l0 x10_1).f1)] 28 (0, 0)) (kC BK1a1) hg (Kd.R_ne HO_3.out BK1a1.out (by decide))); have n2_ := Aside0.mk (hb); have n3_ := Aside0.mk (ho); clear HO_4; clear BK1a1; clear HB; clear HO_3; have HO_4 := n0_; have BK1a1 := n1_; have HB := n2_; have HO7a3 := n3_; clear n0_ n1_ n2_ n3_; clear ho hb hg hat) | ((with_reducible refine gate_builtin (b := .append) (xs := #[.tmp 37, .tmp 38]) rfl ?_); at_builtin; refine Kd.R_append_rows Kd.string (w0 := w) w.heap.size rfl (.tmp 37) (.tmp 38) 39 9 (.string ⟨#[]⟩) 16 rfl Tryz.underlying39 info9 rfl (by decide) (by omega) u3 x3_1 x4_1 _ _ _ (fun k_ => some k_ ≠ (.slice Ao3 x4_1.length co3 : Value).ownBlock) (fun _ => False) rfl rfl ?aO ?aR (fun _ _ h => h) (fun _ h => h.elim) ?aF ?aB ?aS ?aL ?_; (case aR => repeat (first | exact (Kd.R_reads' HO_4.out).2.2 | (with_reducible refine Kd.C_alloc ?_ _) | (with_reducible refine Kd.C_drewN ?_ _) | (with_reducible refine Kd.C_drew ?_))); (case aB => exact bE); (case aF => exact (fun k_ hk => Kd.fresh' (Kd.R_lt (rK HO_4.out)) k_ hk)); (case aO => exact (rK HO_3.out)); (case aS => exact (below_size bE)); (case aL => have := LMc4.out; omega); intro v8a1 w8a2 ho hb hg hat; rw [← Ny5.out] at ho; have n0_ := Aside0.mk (Kd.R_after (ok := (fun _ => True)) (rK (Kd.R_mono HO_4.out (fun _ hk => ⟨trivial, hk⟩))) hg hat); have n1_ := Aside0.mk (hb); have n2_ := Aside0.mk (ho); clear HO_4; clear HB; clear HO_3; have HO_4 := n0_; have HB := n1_; have HO8a3 := n2_; clear n0_ n1_ n2_; clear ho hb hg hat; obtain ⟨Ao8a4, co8a4, eo8a4⟩ := Kd.R_slice HO8a3.out; subst eo8a4) | ((with_reducible refine gate_callee (f := 122) rfl ?_); refine gL (some 41) Tryz.func122 #[.slice Ao8a4 y5.length co8a4] ?_; (with_reducible refine (slices_Sort_string_string.calls (fun k_ => some k_ = (.slice Ao8a4 y5.length co8a4 : Value).ownBlock) (.slice Ao8a4 y5.length co8a4) y5 t1 w _ ?side1 ?side2 A6.out).mono ?_); (case side1 => repeat (first | (with_reducible first | exact HB.out | apply below_alloc | apply pw_below_drewN | apply below_drew1) | exact HB.out)); (case side2 => exact Kd.R_tight rfl HO8a3.out); rintro e w9a1 ⟨rfl, hy1, hb, hkp⟩; refine ⟨_, rfl, ?_⟩; have n0_ := Aside0.mk (Kd.R_mono (ok' := fun k_ => some k_ ≠ (.slice Ao8a4 y5.length co8a4 : Value).ownBlock) (Kd.R_keptB (HO_4.out) hkp (fun k_ hk_ hs_ => (hk_.2) hs_)) (fun k_ hk_ => hk_.1.2)); have n1_ := Aside0.mk (Kd.R_reok rfl hy1 (fun k_ e_ => HO8a3.out.1 k_ e_)); have n2_ := Aside0.mk (hb); clear HO_4; clear HO8a3; clear HB; have HO_4 := n0_; have HO8a3 := n1_; have HB := n2_; clear n0_ n1_ n2_; (try clear hb); (try clear hkp); (try clear hy1)) | ((with_reducible refine gate_callee (f := 123) rfl ?_); refine gL (some 43) Tryz.func123 #[.slice Ao8a4 y5.length co8a4] ?_; (with_reducible refine (slices_Compact_string_string.calls (fun k_ => some k_ = (.slice Ao8a4 y5.length co8a4 : Value).ownBlock) (.slice Ao8a4 y5.length co8a4) t1 t2 w _ ?side1 ?side2 A7.out).mono ?_); (case side1 => repeat (first | (with_reducible first | exact HB.out | apply below_alloc | apply pw_below_drewN | apply below_drew1) | exact HB.out)); (case side2 => exact Kd.R_tight rfl HO8a3.out); rintro e w10a1 ⟨v10a2, rfl, ho10a3, hb, hkp⟩; refine ⟨_, rfl, ?_⟩; have n0_ := Aside0.mk (Kd.R_mono (ok' := fun k_ => some k_ ≠ (v10a2 : Value).ownBlock) (Kd.R_keptB (HO_4.out) hkp (fun k_ hk_ hs_ => (hk_) hs_)) (fun k_ hk_ => fun e_ => Or.elim (ho10a3.1 k_ e_.symm) (fun hs_ => hk_.2.1 hs_) (fun hn_ => Nat.not_le.2 hk_.2.2 hn_))); have n1_ := Aside0.mk (Kd.R_mono (ok' := fun k_ => some k_ ≠ (.slice Ao3 x4_1.length co3 : Value).ownBlock) ho10a3 (fun k_ hk_ => Or.elim hk_ (fun hs_ => fun e_ => (((HO_4.out).1 k_ e_.symm)) hs_) (fun hn_ => (Kd.fresh' (Kd.R_lt (rK HO_4.out)) k_ hn_)))); have n2_ := Aside0.mk (hb); clear HO_4; clear HB; clear HO8a3; have HO_4 := n0_; have HO10a4 := n1_; have HB := n2_; clear n0_ n1_ n2_; (try clear hb); (try clear hkp); (try clear ho10a3)) | ((with_reducible refine gate_callee (f := 122) rfl ?_); refine gL (some 41) Tryz.func122 #[.slice Ao3 x3_1.length co3] ?_; (with_reducible refine (slices_Sort_string_string.calls (fun k_ => some k_ = (.slice Ao3 x3_1.length co3 : Value).ownBlock) (.slice Ao3 x3_1.length co3) x3_1 t1 w _ ?side1 ?side2 A4.out).mono ?_); (case side1 => repeat (first | (with_reducible first | exact HB.out | apply below_alloc | apply pw_below_drewN | apply below_drew1) | exact HB.out)); (case side2 => exact Kd.R_tight rfl HO_3.out); rintro e w11a1 ⟨rfl, hy1, hb, hkp⟩; refine ⟨_, rfl, ?_⟩; have n0_ := Aside0.mk (Kd.R_reok rfl hy1 (fun k_ e_ => HO_3.out.1 k_ e_)); have n1_ := Aside0.mk (Kd.R_mono (ok' := fun k_ => some k_ ≠ (.slice Ao3 x3_1.length co3 : Value).ownBlock) (Kd.R_keptB (HO_4.out) hkp (fun k_ hk_ hs_ => (hk_) hs_)) (fun k_ hk_ => hk_.1)); have n2_ := Aside0.mk (hb); clear HO_3; clear HO_4; clear HB; have HO_3 := n0_; have HO_4 := n1_; have HB := n2_; clear n0_ n1_ n2_; (try clear hb); (try clear hkp); (try clear hy1)) | ((with_reducible refine gate_callee (f := 123) rfl ?_); refine gL (some 43) Tryz.func123 #[.slice Ao3 x3_1.length co3] ?_; (with_reducible refine (slices_Compact_string_string.calls (fun k_ => some k_ = (.slice Ao3 x3_1.length co3 : Value).ownBlock) (.slice Ao3 x3_1.length co3) t1 t2 w _ ?side1 ?side2 A5.out).mono ?_); (case side1 => repeat (first | (with_reducible first | exact HB.out | apply below_alloc | apply pw_below_drewN | apply below_drew1) | exact HB.out)); (case side2 => exact Kd.R_tight rfl HO_3.out); rintro e w12a1 ⟨v12a2, rfl, ho12a3, hb, hkp⟩; refine ⟨_, rfl, ?_⟩; have n0_ := Aside0.mk (Kd.R_mono (ok' := fun k_ => some k_ ≠ (v12a2 : Value).ownBlock) (Kd.R_keptB (HO_4.out) hkp (fun k_ hk_ hs_ => (hk_) hs_)) (fun k_ hk_ => fun e_ => Or.elim (ho12a3.1 k_ e_.symm) (fun hs_ => hk_.2.1 hs_) (fun hn_ => Nat.not_le.2 hk_.2.2 hn_))); have n1_ := Aside0.mk (Kd.R_mono (ok' := fun k_ => some k_ ≠ (u4 : Value).ownBlock) ho12a3 (fun k_ hk_ => Or.elim hk_ (fun hs_ => fun e_ => (((HO_4.out).1 k_ e_.symm)) hs_) (fun hn_ => (Kd.fresh' (Kd.R_lt (rK HO_4.out)) k_ hn_)))); have n2_ := Aside0.mk (hb); clear HO_4; clear HB; clear HO_3; have HO_4 := n0_; have HO12a4 := n1_; have HB := n2_; clear n0_ n1_ n2_; (try clear hb); (try clear hkp); (try clear ho12a3)))
    first
    | clear M4_0
      go_roundg k1
      case measure => have := HK1.out; omega
      first
      | clear M5_0
        case rel => exact ⟨(x3_1), (y10), (wrap64 (x5_1 + (t2.size : Int))), (wrap64 (x10_1 + 1)), rS, rS, H', ⟨by have := HK1.out; omega⟩, ⟨rK (Kd.R_mono HO_3.out (fun _ hk => hk.2))⟩, ⟨by (with_reducible repeat (first | apply Kd.R_alloc | apply Kd.R_drewN | apply Kd.R_drew)); exact HO5a3.out⟩, ⟨bE⟩⟩
      | clear M5_1
        case rel => exact ⟨(y9), (x4_1), (x5_1), (wrap64 (x10_1 + 1)), rS, rS, H', ⟨by have := HK1.out; omega⟩, ⟨by (with_reducible repeat (first | apply Kd.R_alloc | apply Kd.R_drewN | apply Kd.R_drew)); exact HO7a3.out⟩, ⟨rK (Kd.R_mono HO_4.out (fun _ hk => hk.2))⟩, ⟨bE⟩⟩
    | clear M4_1
      go_ret
      first
      | clear M6_0
        exact ⟨_, rE, by (with_reducible repeat (first | apply Kd.R_alloc | apply Kd.R_drewN | apply Kd.R_drew)); exact Kd.R_mono HO10a4.out (fun _ hk => trivial), bE⟩
      | clear M6_1
        exact ⟨_, rE, by (with_reducible repeat (first | apply Kd.R_alloc | apply Kd.R_drewN | apply Kd.R_drew)); exact Kd.R_mono HO12a4.out (fun _ hk => trivial), bE⟩

/-! ### ask_plain: function 48 -/
def ask_plain.f (k : Nat) (a0_0 : ByteArray) (a0_1 : ByteArray) (a0_2 : ByteArray) (a0_3 : Int) (a0_4 : Bool) (l0_5 : List (S28)) (a0_6 : Int) (a0_7 : Int) (a0_8 : Int) (a0_9 : Int) : Option (Bool) := (method_Safe.f k a0_0).bind fun t267 => (if t267 = true then ((safe_Names.f k l0_5).bind fun t268 => (some ((t268.length : Int) == 0))) else (some false))
theorem ask_plain.mono : ∀ a0 a1 a2 a3 a4 a5 a6 a7 a8 a9 k, LeO (ask_plain.f k a0 a1 a2 a3 a4 a5 a6 a7 a8 a9) (ask_plain.f (k + 1) a0 a1 a2 a3 a4 a5 a6 a7 a8 a9) := by
 intro a0 a1 a2 a3 a4 a5 a6 a7 a8 a9 k
 have hm0 := @method_Safe.mono; have hm1 := @safe_Names.mono; unfold ask_plain.f
 exact moE

set_option maxHeartbeats 8000000 in
set_option maxRecDepth 100000 in
theorem ask_plain.calls (k : Nat) (a0_0 : ByteArray) (a0_1 : ByteArray) (a0_2 : ByteArray) (a0_3 : Int) (a0_4 : Bool) (A0_5 : Option Addr) (c0_5 : Nat) (l0_5 : List (S28)) (a0_6 : Int) (a0_7 : Int) (a0_8 : Int) (a0_9 : Int) (r : Bool) (w : World) (hr0_5 : Kd.C k28 w A0_5 l0_5.length l0_5) (hc0_5 : l0_5.length ≤ c0_5) (hM_ : Aside0 (LaidW w)) (h : ask_plain.f k a0_0 a0_1 a0_2 a0_3 a0_4 l0_5 a0_6 a0_7 a0_8 a0_9 = some r) :
  Calls Tryz.prog 48 #[.agg #[.string a0_0, .string a0_1, .string a0_2, .int .i64 a0_3, .bool a0_4, .slice A0_5 l0_5.length c0_5, .int .i64 a0_6, .int .u64 a0_7, .int .i64 a0_8, .int .i64 a0_9]] w fun e w' => e = .returned (.bool r) ∧ Below w.heap.size w w' := by
 have hu26 := Tryz.underlying26
 have HR1_5 := Aside0.mk hr0_5
 have HC1_5 := Aside0.mk hc0_5
 clear hr0_5 hc0_5
 have HB := Aside0.mk (Below.refl w.heap.size w)
 have H : ((method_Safe.f k a0_0).bind fun t1 => (if t1 = true then ((safe_Names.f k l0_5).bind fun t2 => (some ((t2.length : Int) == 0))) else (some false))) = some r := h
 clear h
 replace H := bd_ H; obtain ⟨t1, A2, H⟩ := H
 refine em_ (t1 = true) (fun c3 => ?g1p) (fun c3 => ?g1n)
 case' g1p =>
  subst c3
  replace H := ifT_ H
  replace H := bd_ H; obtain ⟨t2, A4, H⟩ := H
  obtain rfl := si_ H
 case' g1n =>
  replace c3 := Bool.eq_false_iff.mpr c3
  subst c3
  replace H := ifF_ H
  obtain rfl := si_ H
 all_goals
  go_enter Tryz.func48, Tryz.ntmps48
  go_wp2_with (first | ((with_reducible refine gate_dst (N := 1) rfl ?_); (try (refine gate_guard (by rfl) ?_; dsimp only)); refine bxE (N := 1) (cs := #[.string a0_0, .string a0_1, .string a0_2, .int .i64 a0_3, .bool a0_4, .slice A0_5 l0_5.length c0_5, .int .i64 a0_6, .int .u64 a0_7, .int .i64 a0_8, .int .i64 a0_9]) (t := 26) fun gb1a1 hg w1a2 hbox hb => ?_; obtain ⟨HB', BK1a1, GW1a1⟩ := bx_ bE hg hbox hb; have GE1a1 := GW1a1; clear HB hb hbox hg; have HB := HB'; clear HB'; obtain ⟨z1a3_0, z1a3_1, z1a3_2, z1a3_3, z1a3_4, z1a3_5, z1a3_6, z1a3_7, z1a3_8, z1a3_9, zf1a3_0, zf1a3_1, zf1a3_2, zf1a3_3, zf1a3_4, zf1a3_5, zf1a3_6, zf1a3_7, zf1a3_8, zf1a3_9⟩ := bk10_ BK1a1) | ((with_reducible refine gate_callee (f := 38) rfl ?_); refine gL (some 5) Tryz.func38 #[.string a0_0] ?_; (with_reducible refine (method_Safe.calls k a0_0 _ _ A2.out).mono ?_); rintro e w2a1 ⟨rfl, hb⟩; refine ⟨_, rfl, ?_⟩; replace BK1a1 := kM BK1a1 hb; replace HB := bS bE hb; (try clear hb); obtain ⟨z2a2_0, z2a2_1, z2a2_2, z2a2_3, z2a2_4, z2a2_5, z2a2_6, z2a2_7, z2a2_8, z2a2_9, zf2a2_0, zf2a2_1, zf2a2_2, zf2a2_3, zf2a2_4, zf2a2_5, zf2a2_6, zf2a2_7, zf2a2_8, zf2a2_9⟩ := bk10_ BK1a1) | (go_at_call 65; (with_reducible refine (safe_Names.calls k _ _ l0_5 t2 _ ?side1 ?side2 ?side3 A4.out).mono ?_); (case side1 => repeat (first | exact (Kd.C_below HR1_5.out HB.out) | (with_reducible refine Kd.C_alloc ?_ _) | (with_reducible refine Kd.C_drewN ?_ _) | (with_reducible refine Kd.C_drew ?_))); (case side2 => exact HC1_5.out); (case side3 => exact ⟨lE⟩); rintro e w3a1 ⟨v3a2, rfl, ho3a3, hb⟩; have n0_ := Aside0.mk (Kd.R_lower ho3a3 (below_size bE)); have n1_ := kM BK1a1 hb; have n2_ := bS bE hb; clear BK1a1; clear HB; have HO3a4 := n0_; have BK1a1 := n1_; have HB := n2_; clear n0_ n1_ n2_; (try clear hb); (try clear hb2); (try clear hk); (try clear hi); (try clear ho3a3); obtain ⟨Ao3a5, co3a5, eo3a5⟩ := Kd.R_slice HO3a4.out; subst eo3a5))
  go_ret
  exact ⟨rE, bE⟩

/-! ### ask_Check: function 13 -/
def ask_Check.f (k : Nat) (a0_0 : ByteArray) (a0_1 : ByteArray) (a0_2 : ByteArray) (a0_3 : Int) (a0_4 : Bool) (l0_5 : List (S28)) (a0_6 : Int) (a0_7 : Int) (a0_8 : Int) (a0_9 : Int) : Option (Int) := (target_Parse.f k a0_1).bind fun bt272 => (if bt272.2.2.2.2.2 = 0 then ((origin_Parse.f k a0_2).bind fun bt279 => (if bt279.2.2.2 = 0 then ((ask_fields.f k a0_0 a0_1 a0_2 a0_3 a0_4 l0_5 a0_6 a0_7 a0_8 a0_9).bind fun t284 => (if t284 = 0 then (if a0_3 = 1 then (if (!(bt272.1.toList == bt279.1.toList) || (!(bt272.2.1.toList == bt279.2.1.toList) || (!(bt272.2.2.1 == bt279.2.2.1)))) = true then (some 7) else (if a0_3 = 2 then ((ask_plain.f k a0_0 a0_1 a0_2 a0_3 a0_4 l0_5 a0_6 a0_7 a0_8 a0_9).bind fun t285 => (if t285 = true then (some 0) else (some 7))) else (some 0))) else (if a0_3 = 2 then ((ask_plain.f k a0_0 a0_1 a0_2 a0_3 a0_4 l0_5 a0_6 a0_7 a0_8 a0_9).bind fun t286 => (if t286 = true then (some 0) else (some 7))) else (some 0))) else (some t284))) else (some bt279.2.2.2))) else (some bt272.2.2.2.2.2))
theorem ask_Check.mono : ∀ a0 a1 a2 a3 a4 a5 a6 a7 a8 a9 k, LeO (ask_Check.f k a0 a1 a2 a3 a4 a5 a6 a7 a8 a9) (ask_Check.f (k + 1) a0 a1 a2 a3 a4 a5 a6 a7 a8 a9) := by
 intro a0 a1 a2 a3 a4 a5 a6 a7 a8 a9 k
 have hm0 := @ask_fields.mono; have hm1 := @ask_plain.mono; have hm2 := @origin_Parse.mono; have hm3 := @target_Parse.mono; unfold ask_Check.f
 exact moE

set_option maxHeartbeats 8000000 in
set_option maxRecDepth 100000 in
theorem ask_Check.calls (k : Nat) (a0_0 : ByteArray) (a0_1 : ByteArray) (a0_2 : ByteArray) (a0_3 : Int) (a0_4 : Bool) (A0_5 : Option Addr) (c0_5 : Nat) (l0_5 : List (S28)) (a0_6 : Int) (a0_7 : Int) (a0_8 : Int) (a0_9 : Int) (r : Int) (w : World) (hr0_5 : Kd.C k28 w A0_5 l0_5.length l0_5) (hc0_5 : l0_5.length ≤ c0_5) (hM_ : Aside0 (LaidW w)) (h : ask_Check.f k a0_0 a0_1 a0_2 a0_3 a0_4 l0_5 a0_6 a0_7 a0_8 a0_9 = some r) :
  Calls Tryz.prog 13 #[.agg #[.string a0_0, .string a0_1, .string a0_2, .int .i64 a0_3, .bool a0_4, .slice A0_5 l0_5.length c0_5, .int .i64 a0_6, .int .u64 a0_7, .int .i64 a0_8, .int .i64 a0_9]] w fun e w' => e = .returned (.int .i64 r) ∧ Below w.heap.size w w' := by
 have hu26 := Tryz.underlying26
 have hu72 := Tryz.underlying72
 have hu70 := Tryz.underlying70
 have HR1_5 := Aside0.mk hr0_5
 have HC1_5 := Aside0.mk hc0_5
 clear hr0_5 hc0_5
 have HB := Aside0.mk (Below.refl w.heap.size w)
 have H : ((target_Parse.f k a0_1).bind fun bt1 => (if bt1.2.2.2.2.2 = 0 then ((origin_Parse.f k a0_2).bind fun bt2 => (if bt2.2.2.2 = 0 then ((ask_fields.f k a0_0 a0_1 a0_2 a0_3 a0_4 l0_5 a0_6 a0_7 a0_8 a0_9).bind fun t3 => (if t3 = 0 then (if a0_3 = 1 then (if (!(bt1.1.toList == bt2.1.toList) || (!(bt1.2.1.toList == bt2.2.1.toList) || (!(bt1.2.2.1 == bt2.2.2.1)))) = true then (some 7) else (if a0_3 = 2 then ((ask_plain.f k a0_0 a0_1 a0_2 a0_3 a0_4 l0_5 a0_6 a0_7 a0_8 a0_9).bind fun t4 => (if t4 = true then (some 0) else (some 7))) else (some 0))) else (if a0_3 = 2 then ((ask_plain.f k a0_0 a0_1 a0_2 a0_3 a0_4 l0_5 a0_6 a0_7 a0_8 a0_9).bind fun t5 => (if t5 = true then (some 0) else (some 7))) else (some 0))) else (some t3))) else (some bt2.2.2.2))) else (some bt1.2.2.2.2.2))) = some r := h
 clear h
 replace H := bd_ H; obtain ⟨⟨t1, t6, t7, t8, t9, t10⟩, A2, H⟩ := H
 replace H : (if t10 = 0 then ((origin_Parse.f k a0_2).bind fun bt2 => (if bt2.2.2.2 = 0 then ((ask_fields.f k a0_0 a0_1 a0_2 a0_3 a0_4 l0_5 a0_6 a0_7 a0_8 a0_9).bind fun t3 => (if t3 = 0 then (if a0_3 = 1 then (if (!(t1.toList == bt2.1.toList) || (!(t6.toList == bt2.2.1.toList) || (!(t7 == bt2.2.2.1)))) = true then (some 7) else (if a0_3 = 2 then ((ask_plain.f k a0_0 a0_1 a0_2 a0_3 a0_4 l0_5 a0_6 a0_7 a0_8 a0_9).bind fun t4 => (if t4 = true then (some 0) else (some 7))) else (some 0))) else (if a0_3 = 2 then ((ask_plain.f k a0_0 a0_1 a0_2 a0_3 a0_4 l0_5 a0_6 a0_7 a0_8 a0_9).bind fun t5 => (if t5 = true then (some 0) else (some 7))) else (some 0))) else (some t3))) else (some bt2.2.2.2))) else (some t10)) = some r := H
 refine em_ (t10 = 0) (fun c3 => ?g1p) (fun c3 => ?g1n)
 case' g1p =>
  rw [if_pos c3] at H
  have c3b0 : (t10 == 0) = true := beq_iff_eq.mpr c3
  have c3b1 : (t10 != 0) = false := bne_eq_false_iff_eq.mpr c3
  clear c3
  replace H := bd_ H; obtain ⟨⟨t2, t11, t12, t13⟩, A4, H⟩ := H
  replace H : (if t13 = 0 then ((ask_fields.f k a0_0 a0_1 a0_2 a0_3 a0_4 l0_5 a0_6 a0_7 a0_8 a0_9).bind fun t3 => (if t3 = 0 then (if a0_3 = 1 then (if (!(t1.toList == t2.toList) || (!(t6.toList == t11.toList) || (!(t7 == t12)))) = true then (some 7) else (if a0_3 = 2 then ((ask_plain.f k a0_0 a0_1 a0_2 a0_3 a0_4 l0_5 a0_6 a0_7 a0_8 a0_9).bind fun t4 => (if t4 = true then (some 0) else (some 7))) else (some 0))) else (if a0_3 = 2 then ((ask_plain.f k a0_0 a0_1 a0_2 a0_3 a0_4 l0_5 a0_6 a0_7 a0_8 a0_9).bind fun t5 => (if t5 = true then (some 0) else (some 7))) else (some 0))) else (some t3))) else (some t13)) = some r := H
  refine em_ (t13 = 0) (fun c5 => ?g2p) (fun c5 => ?g2n)
  case' g2p =>
   rw [if_pos c5] at H
   have c5b0 : (t13 == 0) = true := beq_iff_eq.mpr c5
   have c5b1 : (t13 != 0) = false := bne_eq_false_iff_eq.mpr c5
   clear c5
   replace H := bd_ H; obtain ⟨t3, A6, H⟩ := H
   refine em_ (t3 = 0) (fun c7 => ?g3p) (fun c7 => ?g3n)
   case' g3p =>
    rw [if_pos c7] at H
    have c7b0 : (t3 == 0) = true := beq_iff_eq.mpr c7
    have c7b1 : (t3 != 0) = false := bne_eq_false_iff_eq.mpr c7
    clear c7
    refine em_ (a0_3 = 1) (fun c8 => ?g4p) (fun c8 => ?g4n)
    case' g4p =>
     rw [if_pos c8] at H
     have c8b0 : (a0_3 == 1) = true := beq_iff_eq.mpr c8
     have c8b1 : (a0_3 != 1) = false := bne_eq_false_iff_eq.mpr c8
     clear c8
     refine em_ ((!(t1.toList == t2.toList) || (!(t6.toList == t11.toList) || (!(t7 == t12)))) = true) (fun c9 => ?g5p) (fun c9 => ?g5n)
     case' g5p =>
      rw [if_pos c9] at H
      have c9b0 : (!(t1.toList == t2.toList) || (!(t6.toList == t11.toList) || (!(t7 == t12)))) = true := c9
      clear c9
      obtain rfl := si_ H
     case' g5n =>
      rw [if_neg c9] at H
      have c9b0 : (!(t1.toList == t2.toList) || (!(t6.toList == t11.toList) || (!(t7 == t12)))) = false := by simpa using c9
      clear c9
      refine em_ (a0_3 = 2) (fun c10 => ?g6p) (fun c10 => ?g6n)
      case' g6p =>
       rw [if_pos c10] at H
       have c10b0 : (a0_3 == 2) = true := beq_iff_eq.mpr c10
       have c10b1 : (a0_3 != 2) = false := bne_eq_false_iff_eq.mpr c10
       clear c10
       replace H := bd_ H; obtain ⟨t4, A11, H⟩ := H
       refine em_ (t4 = true) (fun c12 => ?g7p) (fun c12 => ?g7n)
       case' g7p =>
        subst c12
        replace H := ifT_ H
        obtain rfl := si_ H
       case' g7n =>
        replace c12 := Bool.eq_false_iff.mpr c12
        subst c12
        replace H := ifF_ H
        obtain rfl := si_ H
      case' g6n =>
       rw [if_neg c10] at H
       have c10b0 : (a0_3 == 2) = false := beq_eq_false_iff_ne.mpr c10
       have c10b1 : (a0_3 != 2) = true := bne_iff_ne.mpr c10
       obtain rfl := si_ H
    case' g4n =>
     rw [if_neg c8] at H
     have c8b0 : (a0_3 == 1) = false := beq_eq_false_iff_ne.mpr c8
     have c8b1 : (a0_3 != 1) = true := bne_iff_ne.mpr c8
     refine em_ (a0_3 = 2) (fun c9 => ?g8p) (fun c9 => ?g8n)
     case' g8p =>
      rw [if_pos c9] at H
      have c9b0 : (a0_3 == 2) = true := beq_iff_eq.mpr c9
      have c9b1 : (a0_3 != 2) = false := bne_eq_false_iff_eq.mpr c9
      clear c9
      replace H := bd_ H; obtain ⟨t5, A10, H⟩ := H
      refine em_ (t5 = true) (fun c11 => ?g9p) (fun c11 => ?g9n)
      case' g9p =>
       subst c11
       replace H := ifT_ H
       obtain rfl := si_ H
      case' g9n =>
       replace c11 := Bool.eq_false_iff.mpr c11
       subst c11
       replace H := ifF_ H
       obtain rfl := si_ H
     case' g8n =>
      rw [if_neg c9] at H
      have c9b0 : (a0_3 == 2) = false := beq_eq_false_iff_ne.mpr c9
      have c9b1 : (a0_3 != 2) = true := bne_iff_ne.mpr c9
      obtain rfl := si_ H
   case' g3n =>
    rw [if_neg c7] at H
    have c7b0 : (t3 == 0) = false := beq_eq_false_iff_ne.mpr c7
    have c7b1 : (t3 != 0) = true := bne_iff_ne.mpr c7
    obtain rfl := si_ H
  case' g2n =>
   rw [if_neg c5] at H
   have c5b0 : (t13 == 0) = false := beq_eq_false_iff_ne.mpr c5
   have c5b1 : (t13 != 0) = true := bne_iff_ne.mpr c5
   obtain rfl := si_ H
 case' g1n =>
  rw [if_neg c3] at H
  have c3b0 : (t10 == 0) = false := beq_eq_false_iff_ne.mpr c3
  have c3b1 : (t10 != 0) = true := bne_iff_ne.mpr c3
  obtain rfl := si_ H
 all_goals
  go_enter Tryz.func13, Tryz.ntmps13
  go_wp2_with (first | ((with_reducible refine gate_dst (N := 1) rfl ?_); refine bxE (N := 1) (cs := #[.string a0_0, .string a0_1, .string a0_2, .int .i64 a0_3, .bool a0_4, .slice A0_5 l0_5.length c0_5, .int .i64 a0_6, .int .u64 a0_7, .int .i64 a0_8, .int .i64 a0_9]) (t := 26) fun gb1a1 hg w1a2 hbox hb => ?_; obtain ⟨HB', BK1a1, GW1a1⟩ := bx_ bE hg hbox hb; have GE1a1 := GW1a1; clear HB hb hbox hg; have HB := HB'; clear HB'; obtain ⟨z1a3_0, z1a3_1, z1a3_2, z1a3_3, z1a3_4, z1a3_5, z1a3_6, z1a3_7, z1a3_8, z1a3_9, zf1a3_0, zf1a3_1, zf1a3_2, zf1a3_3, zf1a3_4, zf1a3_5, zf1a3_6, zf1a3_7, zf1a3_8, zf1a3_9⟩ := bk10_ BK1a1) | ((with_reducible refine gate_callee (f := 45) rfl ?_); refine gL (some 10) Tryz.func45 #[.string a0_1] ?_; (with_reducible refine (target_Parse.calls k a0_1 t1 t6 t7 t8 t9 _ _ ?side1 A2.out).mono ?_); (case side1 => exact ⟨lE⟩); rintro e w2a1 ⟨rfl, hb⟩; refine ⟨_, rfl, ?_⟩; replace BK1a1 := kM BK1a1 hb; replace HB := bS bE hb; (try clear hb)) | ((with_reducible refine gate_dst (N := 3) rfl ?_); refine bxE (N := 3) (cs := #[.string (⟨#[]⟩ : ByteArray), .string (⟨#[]⟩ : ByteArray), .int .i64 0, .string (⟨#[]⟩ : ByteArray), .string (⟨#[]⟩ : ByteArray)]) (t := 72) fun gb3a1 hg w3a2 hbox hb => ?_; have BK3a1 := Aside0.mk (hbox); have GW3a1 := sE (w := w) hg; have GE3a1 := sE (w := w) hg; have NB1a1_3a1 := neL BK1a1 hg; have NB3a1_1a1 := neG BK1a1 hg; replace BK1a1 := kM BK1a1 hb; replace HB := bS bE hb; clear hb hbox hg; have hnb3a3 := NB3a1_1a1.out; have hnc3a3 := NB1a1_3a1.out; obtain ⟨z3a4_0, z3a4_1, z3a4_2, z3a4_3, z3a4_4, zf3a4_0, zf3a4_1, zf3a4_2, zf3a4_3, zf3a4_4⟩ := bk5_ BK3a1; obtain ⟨z3a5_0, z3a5_1, z3a5_2, z3a5_3, z3a5_4, z3a5_5, z3a5_6, z3a5_7, z3a5_8, z3a5_9, zf3a5_0, zf3a5_1, zf3a5_2, zf3a5_3, zf3a5_4, zf3a5_5, zf3a5_6, zf3a5_7, zf3a5_8, zf3a5_9⟩ := bk10_ BK1a1) | ((with_reducible refine gate_callee (f := 46) rfl ?_); refine gL (some 19) Tryz.func46 #[.string a0_2] ?_; (with_reducible refine (origin_Parse.calls k a0_2 t2 t11 t12 _ _ ?side1 A4.out).mono ?_); (case side1 => exact ⟨lE⟩); rintro e w4a1 ⟨rfl, hb⟩; refine ⟨_, rfl, ?_⟩; have n0_ := kF BK1a1 hb; have n1_ := Aside0.mk (blk_below (g := gb3a1) (o := .cells #[.string t1, .string t6, .int .i64 t7, .string t8, .string t9] 72 (0, 0)) (kT) hb); have n2_ := bS bE hb; clear BK1a1; clear BK3a1; clear HB; have BK1a1 := n0_; have BK3a1 := n1_; have HB := n2_; clear n0_ n1_ n2_; (try clear hb); (try clear hb2); (try clear hk); (try clear hi)) | ((with_reducible refine gate_dst (N := 5) rfl ?_); refine bxE (N := 5) (cs := #[.string (⟨#[]⟩ : ByteArray), .string (⟨#[]⟩ : ByteArray), .int .i64 0]) (t := 70) fun gb5a1 hg w5a2 hbox hb => ?_; have BK5a1 := Aside0.mk (hbox); have GW5a1 := sE (w := w) hg; have GE5a1 := sE (w := w) hg; have NB1a1_5a1 := neL BK1a1 hg; have NB5a1_1a1 := neG BK1a1 hg; have NB3a1_5a1 := neL BK3a1 hg; have NB5a1_3a1 := neG BK3a1 hg; replace BK1a1 := kM BK1a1 hb; replace BK3a1 := kM BK3a1 hb; replace HB := bS bE hb; clear hb hbox hg; have hnb5a3 := NB5a1_1a1.out; have hnc5a3 := NB1a1_5a1.out; have hnb5a4 := NB5a1_3a1.out; have hnc5a4 := NB3a1_5a1.out; obtain ⟨z5a5_0, z5a5_1, z5a5_2, zf5a5_0, zf5a5_1, zf5a5_2⟩ := bk3_ BK5a1; obtain ⟨z5a6_0, z5a6_1, z5a6_2, z5a6_3, z5a6_4, z5a6_5, z5a6_6, z5a6_7, z5a6_8, z5a6_9, zf5a6_0, zf5a6_1, zf5a6_2, zf5a6_3, zf5a6_4, zf5a6_5, zf5a6_6, zf5a6_7, zf5a6_8, zf5a6_9⟩ := bk10_ BK1a1) | ((with_reducible refine gate_callee (f := 47) rfl ?_); refine gL (some 26) Tryz.func47 #[.agg #[.string a0_0, .string a0_1, .string a0_2, .int .i64 a0_3, .bool a0_4, .slice A0_5 l0_5.length c0_5, .int .i64 a0_6, .int .u64 a0_7, .int .i64 a0_8, .int .i64 a0_9]] ?_; (with_reducible refine (ask_fields.calls k a0_0 a0_1 a0_2 a0_3 a0_4 _ _ l0_5 a0_6 a0_7 a0_8 a0_9 t3 _ ?side1 ?side2 A6.out).mono ?_); (case side1 => exact Kd.C_below HR1_5.out bE); (case side2 => exact HC1_5.out); rintro e w6a1 ⟨rfl, hb⟩; refine ⟨_, rfl, ?_⟩; have n0_ := kF BK1a1 hb; have n1_ := kF BK3a1 hb; have n2_ := Aside0.mk (blk_below (g := gb5a1) (o := .cells #[.string t2, .string t11, .int .i64 t12] 70 (0, 0)) (kT) hb); have n3_ := bS bE hb; clear BK1a1; clear BK3a1; clear BK5a1; clear HB; have BK1a1 := n0_; have BK3a1 := n1_; have BK5a1 := n2_; have HB := n3_; clear n0_ n1_ n2_ n3_; (try clear hb); (try clear hb2); (try clear hk); (try clear hi); obtain ⟨z6a2_0, z6a2_1, z6a2_2, z6a2_3, z6a2_4, z6a2_5, z6a2_6, z6a2_7, z6a2_8, z6a2_9, zf6a2_0, zf6a2_1, zf6a2_2, zf6a2_3, zf6a2_4, zf6a2_5, zf6a2_6, zf6a2_7, zf6a2_8, zf6a2_9⟩ := bk10_ BK1a1; obtain ⟨z6a3_0, z6a3_1, z6a3_2, z6a3_3, z6a3_4, zf6a3_0, zf6a3_1, zf6a3_2, zf6a3_3, zf6a3_4⟩ := bk5_ BK3a1; obtain ⟨z6a4_0, z6a4_1, z6a4_2, zf6a4_0, zf6a4_1, zf6a4_2⟩ := bk3_ BK5a1) | (go_at_call 48; (with_reducible refine (ask_plain.calls k a0_0 a0_1 a0_2 a0_3 a0_4 _ _ l0_5 a0_6 a0_7 a0_8 a0_9 true _ ?side1 ?side2 ?side3 A11.out).mono ?_); (case side1 => repeat (first | exact (Kd.C_below HR1_5.out HB.out) | (with_reducible refine Kd.C_alloc ?_ _) | (with_reducible refine Kd.C_drewN ?_ _) | (with_reducible refine Kd.C_drew ?_))); (case side2 => exact HC1_5.out); (case side3 => exact ⟨lE⟩); rintro e w7a1 ⟨rfl, hb⟩; replace BK1a1 := kM BK1a1 hb; replace BK3a1 := kM BK3a1 hb; replace BK5a1 := kM BK5a1 hb; replace HB := bS bE hb; (try clear hb)) | (go_at_call 48; (with_reducible refine (ask_plain.calls k a0_0 a0_1 a0_2 a0_3 a0_4 _ _ l0_5 a0_6 a0_7 a0_8 a0_9 false _ ?side1 ?side2 ?side3 A11.out).mono ?_); (case side1 => repeat (first | exact (Kd.C_below HR1_5.out HB.out) | (with_reducible refine Kd.C_alloc ?_ _) | (with_reducible refine Kd.C_drewN ?_ _) | (with_reducible refine Kd.C_drew ?_))); (case side2 => exact HC1_5.out); (case side3 => exact ⟨lE⟩); rintro e w8a1 ⟨rfl, hb⟩; replace BK1a1 := kM BK1a1 hb; replace BK3a1 := kM BK3a1 hb; replace BK5a1 := kM BK5a1 hb; replace HB := bS bE hb; (try clear hb)) | (go_at_call 48; (with_reducible refine (ask_plain.calls k a0_0 a0_1 a0_2 a0_3 a0_4 _ _ l0_5 a0_6 a0_7 a0_8 a0_9 true _ ?side1 ?side2 ?side3 A10.out).mono ?_); (case side1 => repeat (first | exact (Kd.C_below HR1_5.out HB.out) | (with_reducible refine Kd.C_alloc ?_ _) | (with_reducible refine Kd.C_drewN ?_ _) | (with_reducible refine Kd.C_drew ?_))); (case side2 => exact HC1_5.out); (case side3 => exact ⟨lE⟩); rintro e w9a1 ⟨rfl, hb⟩; replace BK1a1 := kM BK1a1 hb; replace BK3a1 := kM BK3a1 hb; replace BK5a1 := kM BK5a1 hb; replace HB := bS bE hb; (try clear hb)) | (go_at_call 48; (with_reducible refine (ask_plain.calls k a0_0 a0_1 a0_2 a0_3 a0_4 _ _ l0_5 a0_6 a0_7 a0_8 a0_9 false _ ?side1 ?side2 ?side3 A10.out).mono ?_); (case side1 => repeat (first | exact (Kd.C_below HR1_5.out HB.out) | (with_reducible refine Kd.C_alloc ?_ _) | (with_reducible refine Kd.C_drewN ?_ _) | (with_reducible refine Kd.C_drew ?_))); (case side2 => exact HC1_5.out); (case side3 => exact ⟨lE⟩); rintro e w10a1 ⟨rfl, hb⟩; replace BK1a1 := kM BK1a1 hb; replace BK3a1 := kM BK3a1 hb; replace BK5a1 := kM BK5a1 hb; replace HB := bS bE hb; (try clear hb)))
  go_ret
  exact ⟨rE, bE⟩

/-! ### ask_parts: function 49 -/
def ask_parts.f (k : Nat) (a0_0 : ByteArray) (a0_1 : ByteArray) (a0_2 : ByteArray) (a0_3 : Int) (a0_4 : Bool) (l0_5 : List (S28)) (a0_6 : Int) (a0_7 : Int) (a0_8 : Int) (a0_9 : Int) : Option (ByteArray × ByteArray × Int × ByteArray × ByteArray × ByteArray × ByteArray × Int × Bool) := (ask_Check.f k a0_0 a0_1 a0_2 a0_3 a0_4 l0_5 a0_6 a0_7 a0_8 a0_9).bind fun t290 => (if t290 = 0 then ((target_Parse.f k a0_1).bind fun bt291 => ((origin_Parse.f k a0_2).bind fun bt298 => (some (bt291.1, bt291.2.1, bt291.2.2.1, bt291.2.2.2.1, bt291.2.2.2.2.1, bt298.1, bt298.2.1, bt298.2.2.1, true)))) else (some ((⟨#[]⟩ : ByteArray), (⟨#[]⟩ : ByteArray), 0, (⟨#[]⟩ : ByteArray), (⟨#[]⟩ : ByteArray), (⟨#[]⟩ : ByteArray), (⟨#[]⟩ : ByteArray), 0, false)))
theorem ask_parts.mono : ∀ a0 a1 a2 a3 a4 a5 a6 a7 a8 a9 k, LeO (ask_parts.f k a0 a1 a2 a3 a4 a5 a6 a7 a8 a9) (ask_parts.f (k + 1) a0 a1 a2 a3 a4 a5 a6 a7 a8 a9) := by
 intro a0 a1 a2 a3 a4 a5 a6 a7 a8 a9 k
 have hm0 := @ask_Check.mono; have hm1 := @origin_Parse.mono; have hm2 := @target_Parse.mono; unfold ask_parts.f
 exact moE

set_option maxHeartbeats 8000000 in
set_option maxRecDepth 100000 in
theorem ask_parts.calls (k : Nat) (a0_0 : ByteArray) (a0_1 : ByteArray) (a0_2 : ByteArray) (a0_3 : Int) (a0_4 : Bool) (A0_5 : Option Addr) (c0_5 : Nat) (l0_5 : List (S28)) (a0_6 : Int) (a0_7 : Int) (a0_8 : Int) (a0_9 : Int) (r1 : ByteArray) (r2 : ByteArray) (r3 : Int) (r4 : ByteArray) (r5 : ByteArray) (r6 : ByteArray) (r7 : ByteArray) (r8 : Int) (r9 : Bool) (w : World) (hr0_5 : Kd.C k28 w A0_5 l0_5.length l0_5) (hc0_5 : l0_5.length ≤ c0_5) (hM_ : Aside0 (LaidW w)) (h : ask_parts.f k a0_0 a0_1 a0_2 a0_3 a0_4 l0_5 a0_6 a0_7 a0_8 a0_9 = some (r1, r2, r3, r4, r5, r6, r7, r8, r9)) :
  Calls Tryz.prog 49 #[.agg #[.string a0_0, .string a0_1, .string a0_2, .int .i64 a0_3, .bool a0_4, .slice A0_5 l0_5.length c0_5, .int .i64 a0_6, .int .u64 a0_7, .int .i64 a0_8, .int .i64 a0_9]] w fun e w' => e = .returned (.tuple #[.agg #[.string r1, .string r2, .int .i64 r3, .string r4, .string r5], .agg #[.string r6, .string r7, .int .i64 r8], .bool r9]) ∧ Below w.heap.size w w' := by
 have hu26 := Tryz.underlying26
 have hu72 := Tryz.underlying72
 have hu70 := Tryz.underlying70
 have HR1_5 := Aside0.mk hr0_5
 have HC1_5 := Aside0.mk hc0_5
 clear hr0_5 hc0_5
 have HB := Aside0.mk (Below.refl w.heap.size w)
 have H : ((ask_Check.f k a0_0 a0_1 a0_2 a0_3 a0_4 l0_5 a0_6 a0_7 a0_8 a0_9).bind fun t1 => (if t1 = 0 then ((target_Parse.f k a0_1).bind fun bt2 => ((origin_Parse.f k a0_2).bind fun bt3 => (some (bt2.1, bt2.2.1, bt2.2.2.1, bt2.2.2.2.1, bt2.2.2.2.2.1, bt3.1, bt3.2.1, bt3.2.2.1, true)))) else (some ((⟨#[]⟩ : ByteArray), (⟨#[]⟩ : ByteArray), 0, (⟨#[]⟩ : ByteArray), (⟨#[]⟩ : ByteArray), (⟨#[]⟩ : ByteArray), (⟨#[]⟩ : ByteArray), 0, false)))) = some (r1, r2, r3, r4, r5, r6, r7, r8, r9) := h
 clear h
 replace H := bd_ H; obtain ⟨t1, A2, H⟩ := H
 refine em_ (t1 = 0) (fun c3 => ?g1p) (fun c3 => ?g1n)
 case' g1p =>
  rw [if_pos c3] at H
  have c3b0 : (t1 == 0) = true := beq_iff_eq.mpr c3
  have c3b1 : (t1 != 0) = false := bne_eq_false_iff_eq.mpr c3
  clear c3
  replace H := bd_ H; obtain ⟨⟨t2, t4, t5, t6, t7, t8⟩, A4, H⟩ := H
  replace H : ((origin_Parse.f k a0_2).bind fun bt3 => (some (t2, t4, t5, t6, t7, bt3.1, bt3.2.1, bt3.2.2.1, true))) = some (r1, r2, r3, r4, r5, r6, r7, r8, r9) := H
  replace H := bd_ H; obtain ⟨⟨t3, t9, t10, t11⟩, A5, H⟩ := H
  replace H : (some (t2, t4, t5, t6, t7, t3, t9, t10, true)) = some (r1, r2, r3, r4, r5, r6, r7, r8, r9) := H
  simp only [Option.some.injEq, Prod.mk.injEq] at H
  obtain ⟨rfl, rfl, rfl, rfl, rfl, rfl, rfl, rfl, rfl⟩ := H
  have G2 := trivial; have M4_0 := trivial
 case' g1n =>
  rw [if_neg c3] at H
  have c3b0 : (t1 == 0) = false := beq_eq_false_iff_ne.mpr c3
  have c3b1 : (t1 != 0) = true := bne_iff_ne.mpr c3
  simp only [Option.some.injEq, Prod.mk.injEq] at H
  obtain ⟨rfl, rfl, rfl, rfl, rfl, rfl, rfl, rfl, rfl⟩ := H
  have G3 := trivial; have M4_1 := trivial
 all_goals
  go_enter Tryz.func49, Tryz.ntmps49
  try go_wp2_with (first | ((with_reducible refine gate_dst (N := 1) rfl ?_); refine bxE (N := 1) (cs := #[.string a0_0, .string a0_1, .string a0_2, .int .i64 a0_3, .bool a0_4, .slice A0_5 l0_5.length c0_5, .int .i64 a0_6, .int .u64 a0_7, .int .i64 a0_8, .int .i64 a0_9]) (t := 26) fun gb1a1 hg w1a2 hbox hb => ?_; obtain ⟨HB', BK1a1, GW1a1⟩ := bx_ bE hg hbox hb; have GE1a1 := GW1a1; clear HB hb hbox hg; have HB := HB'; clear HB') | ((with_reducible refine gate_dst (N := 2) rfl ?_); refine bxE (N := 2) (cs := #[.string (⟨#[]⟩ : ByteArray), .string (⟨#[]⟩ : ByteArray), .int .i64 0, .string (⟨#[]⟩ : ByteArray), .string (⟨#[]⟩ : ByteArray)]) (t := 72) fun gb2a1 hg w2a2 hbox hb => ?_; have BK2a1 := Aside0.mk (hbox); have GW2a1 := sE (w := w) hg; have GE2a1 := sE (w := w) hg; have NB1a1_2a1 := neL BK1a1 hg; have NB2a1_1a1 := neG BK1a1 hg; replace BK1a1 := kM BK1a1 hb; replace HB := bS bE hb; clear hb hbox hg) | ((with_reducible refine gate_dst (N := 3) rfl ?_); refine bxE (N := 3) (cs := #[.string (⟨#[]⟩ : ByteArray), .string (⟨#[]⟩ : ByteArray), .int .i64 0]) (t := 70) fun gb3a1 hg w3a2 hbox hb => ?_; have BK3a1 := Aside0.mk (hbox); have GW3a1 := sE (w := w) hg; have GE3a1 := sE (w := w) hg; have NB1a1_3a1 := neL BK1a1 hg; have NB3a1_1a1 := neG BK1a1 hg; have NB2a1_3a1 := neL BK2a1 hg; have NB3a1_2a1 := neG BK2a1 hg; replace BK1a1 := kM BK1a1 hb; replace BK2a1 := kM BK2a1 hb; replace HB := bS bE hb; clear hb hbox hg; have hnb3a3 := NB1a1_2a1.out; have hnc3a3 := NB2a1_1a1.out; have hnb3a4 := NB1a1_3a1.out; have hnc3a4 := NB3a1_1a1.out; obtain ⟨z3a5_0, z3a5_1, z3a5_2, z3a5_3, z3a5_4, z3a5_5, z3a5_6, z3a5_7, z3a5_8, z3a5_9, zf3a5_0, zf3a5_1, zf3a5_2, zf3a5_3, zf3a5_4, zf3a5_5, zf3a5_6, zf3a5_7, zf3a5_8, zf3a5_9⟩ := bk10_ BK1a1) | (have z_ := G2; clear z_; ((with_reducible refine gate_callee (f := 13) rfl ?_); refine gL (some 10) Tryz.func13 #[.agg #[.string a0_0, .string a0_1, .string a0_2, .int .i64 a0_3, .bool a0_4, .slice A0_5 l0_5.length c0_5, .int .i64 a0_6, .int .u64 a0_7, .int .i64 a0_8, .int .i64 a0_9]] ?_; (with_reducible refine (ask_Check.calls k a0_0 a0_1 a0_2 a0_3 a0_4 _ _ l0_5 a0_6 a0_7 a0_8 a0_9 t1 _ ?side1 ?side2 ?side3 A2.out).mono ?_); (case side1 => repeat (first | exact (Kd.C_below HR1_5.out HB.out) | (with_reducible refine Kd.C_alloc ?_ _) | (with_reducible refine Kd.C_drewN ?_ _) | (with_reducible refine Kd.C_drew ?_))); (case side2 => exact HC1_5.out); (case side3 => exact ⟨lE⟩); rintro e w4a1 ⟨rfl, hb⟩; refine ⟨_, rfl, ?_⟩; replace BK1a1 := kM BK1a1 hb; replace BK2a1 := kM BK2a1 hb; replace BK3a1 := kM BK3a1 hb; replace HB := bS bE hb; (try clear hb); obtain ⟨z4a2_0, z4a2_1, z4a2_2, z4a2_3, z4a2_4, z4a2_5, z4a2_6, z4a2_7, z4a2_8, z4a2_9, zf4a2_0, zf4a2_1, zf4a2_2, zf4a2_3, zf4a2_4, zf4a2_5, zf4a2_6, zf4a2_7, zf4a2_8, zf4a2_9⟩ := bk10_ BK1a1)) | ((with_reducible refine gate_callee (f := 45) rfl ?_); refine gL (some 17) Tryz.func45 #[.string a0_1] ?_; (with_reducible refine (target_Parse.calls k a0_1 t2 t4 t5 t6 t7 _ _ ?side1 A4.out).mono ?_); (case side1 => exact ⟨lE⟩); rintro e w5a1 ⟨rfl, hb⟩; refine ⟨_, rfl, ?_⟩; replace BK1a1 := kM BK1a1 hb; replace BK2a1 := kM BK2a1 hb; replace BK3a1 := kM BK3a1 hb; replace HB := bS bE hb; (try clear hb)) | ((with_reducible refine gate_dst (N := 5) rfl ?_); refine bxE (N := 5) (cs := #[.string (⟨#[]⟩ : ByteArray), .string (⟨#[]⟩ : ByteArray), .int .i64 0, .string (⟨#[]⟩ : ByteArray), .string (⟨#[]⟩ : ByteArray)]) (t := 72) fun gb6a1 hg w6a2 hbox hb => ?_; have BK6a1 := Aside0.mk (hbox); have GW6a1 := sE (w := w) hg; have GE6a1 := sE (w := w) hg; have NB1a1_6a1 := neL BK1a1 hg; have NB6a1_1a1 := neG BK1a1 hg; have NB2a1_6a1 := neL BK2a1 hg; have NB6a1_2a1 := neG BK2a1 hg; have NB3a1_6a1 := neL BK3a1 hg; have NB6a1_3a1 := neG BK3a1 hg; replace BK1a1 := kM BK1a1 hb; replace BK2a1 := kM BK2a1 hb; replace BK3a1 := kM BK3a1 hb; replace HB := bS bE hb; clear hb hbox hg; have hnb6a3 := NB6a1_1a1.out; have hnc6a3 := NB1a1_6a1.out; have hnb6a4 := NB6a1_2a1.out; have hnc6a4 := NB2a1_6a1.out; have hnb6a5 := NB6a1_3a1.out; have hnc6a5 := NB3a1_6a1.out; obtain ⟨z6a6_0, z6a6_1, z6a6_2, z6a6_3, z6a6_4, zf6a6_0, zf6a6_1, zf6a6_2, zf6a6_3, zf6a6_4⟩ := bk5_ BK6a1; obtain ⟨z6a7_0, z6a7_1, z6a7_2, z6a7_3, z6a7_4, z6a7_5, z6a7_6, z6a7_7, z6a7_8, z6a7_9, zf6a7_0, zf6a7_1, zf6a7_2, zf6a7_3, zf6a7_4, zf6a7_5, zf6a7_6, zf6a7_7, zf6a7_8, zf6a7_9⟩ := bk10_ BK1a1) | ((with_reducible refine gate_callee (f := 46) rfl ?_); refine gL (some 23) Tryz.func46 #[.string a0_2] ?_; (with_reducible refine (origin_Parse.calls k a0_2 t3 t9 t10 _ _ ?side1 A5.out).mono ?_); (case side1 => exact ⟨lE⟩); rintro e w7a1 ⟨rfl, hb⟩; refine ⟨_, rfl, ?_⟩; have n0_ := kF BK1a1 hb; have n1_ := kF BK2a1 hb; have n2_ := kF BK3a1 hb; have n3_ := Aside0.mk (blk_below (g := gb6a1) (o := .cells #[.string t2, .string t4, .int .i64 t5, .string t6, .string t7] 72 (0, 0)) (kT) hb); have n4_ := bS bE hb; clear BK1a1; clear BK2a1; clear BK3a1; clear BK6a1; clear HB; have BK1a1 := n0_; have BK2a1 := n1_; have BK3a1 := n2_; have BK6a1 := n3_; have HB := n4_; clear n0_ n1_ n2_ n3_ n4_; (try clear hb); (try clear hb2); (try clear hk); (try clear hi)) | ((with_reducible refine gate_dst (N := 7) rfl ?_); refine bxE (N := 7) (cs := #[.string (⟨#[]⟩ : ByteArray), .string (⟨#[]⟩ : ByteArray), .int .i64 0]) (t := 70) fun gb8a1 hg w8a2 hbox hb => ?_; have BK8a1 := Aside0.mk (hbox); have GW8a1 := sE (w := w) hg; have GE8a1 := sE (w := w) hg; have NB1a1_8a1 := neL BK1a1 hg; have NB8a1_1a1 := neG BK1a1 hg; have NB2a1_8a1 := neL BK2a1 hg; have NB8a1_2a1 := neG BK2a1 hg; have NB3a1_8a1 := neL BK3a1 hg; have NB8a1_3a1 := neG BK3a1 hg; have NB6a1_8a1 := neL BK6a1 hg; have NB8a1_6a1 := neG BK6a1 hg; replace BK1a1 := kM BK1a1 hb; replace BK2a1 := kM BK2a1 hb; replace BK3a1 := kM BK3a1 hb; replace BK6a1 := kM BK6a1 hb; replace HB := bS bE hb; clear hb hbox hg; have hnb8a3 := NB8a1_1a1.out; have hnc8a3 := NB1a1_8a1.out; have hnb8a4 := NB8a1_2a1.out; have hnc8a4 := NB2a1_8a1.out; have hnb8a5 := NB8a1_3a1.out; have hnc8a5 := NB3a1_8a1.out; have hnb8a6 := NB8a1_6a1.out; have hnc8a6 := NB6a1_8a1.out; obtain ⟨z8a7_0, z8a7_1, z8a7_2, zf8a7_0, zf8a7_1, zf8a7_2⟩ := bk3_ BK8a1) | (have z_ := G3; clear z_; ((with_reducible refine gate_callee (f := 13) rfl ?_); refine gL (some 10) Tryz.func13 #[.agg #[.string a0_0, .string a0_1, .string a0_2, .int .i64 a0_3, .bool a0_4, .slice A0_5 l0_5.length c0_5, .int .i64 a0_6, .int .u64 a0_7, .int .i64 a0_8, .int .i64 a0_9]] ?_; (with_reducible refine (ask_Check.calls k a0_0 a0_1 a0_2 a0_3 a0_4 _ _ l0_5 a0_6 a0_7 a0_8 a0_9 t1 _ ?side1 ?side2 ?side3 A2.out).mono ?_); (case side1 => repeat (first | exact (Kd.C_below HR1_5.out HB.out) | (with_reducible refine Kd.C_alloc ?_ _) | (with_reducible refine Kd.C_drewN ?_ _) | (with_reducible refine Kd.C_drew ?_))); (case side2 => exact HC1_5.out); (case side3 => exact ⟨lE⟩); rintro e w4a1 ⟨rfl, hb⟩; refine ⟨_, rfl, ?_⟩; replace BK1a1 := kM BK1a1 hb; replace BK2a1 := kM BK2a1 hb; replace BK3a1 := kM BK3a1 hb; replace HB := bS bE hb; (try clear hb); have hnb4a2 := NB2a1_3a1.out; have hnc4a2 := NB3a1_2a1.out; obtain ⟨z4a3_0, z4a3_1, z4a3_2, z4a3_3, z4a3_4, zf4a3_0, zf4a3_1, zf4a3_2, zf4a3_3, zf4a3_4⟩ := bk5_ BK2a1; obtain ⟨z4a4_0, z4a4_1, z4a4_2, zf4a4_0, zf4a4_1, zf4a4_2⟩ := bk3_ BK3a1)))
  first
  | clear M4_0
    have n0_ : Aside0 ((((w8a2.setCell ⟨gb8a1, 0, none⟩ (.string t3)).setCell ⟨gb8a1, 1, none⟩ (.string t9)).setCell ⟨gb8a1, 2, none⟩ (.int .i64 t10)).heap[gb1a1]? = some (.cells #[.string a0_0, .string a0_1, .string a0_2, .int .i64 a0_3, .bool a0_4, .slice A0_5 l0_5.length c0_5, .int .i64 a0_6, .int .u64 a0_7, .int .i64 a0_8, .int .i64 a0_9] 26 (0, 0))) := ⟨kT⟩
    have n1_ : Aside0 ((((w8a2.setCell ⟨gb8a1, 0, none⟩ (.string t3)).setCell ⟨gb8a1, 1, none⟩ (.string t9)).setCell ⟨gb8a1, 2, none⟩ (.int .i64 t10)).heap[gb2a1]? = some (.cells #[.string (⟨#[]⟩ : ByteArray), .string (⟨#[]⟩ : ByteArray), .int .i64 0, .string (⟨#[]⟩ : ByteArray), .string (⟨#[]⟩ : ByteArray)] 72 (0, 0))) := ⟨kT⟩
    have n2_ : Aside0 ((((w8a2.setCell ⟨gb8a1, 0, none⟩ (.string t3)).setCell ⟨gb8a1, 1, none⟩ (.string t9)).setCell ⟨gb8a1, 2, none⟩ (.int .i64 t10)).heap[gb3a1]? = some (.cells #[.string (⟨#[]⟩ : ByteArray), .string (⟨#[]⟩ : ByteArray), .int .i64 0] 70 (0, 0))) := ⟨kT⟩
    have n3_ : Aside0 ((((w8a2.setCell ⟨gb8a1, 0, none⟩ (.string t3)).setCell ⟨gb8a1, 1, none⟩ (.string t9)).setCell ⟨gb8a1, 2, none⟩ (.int .i64 t10)).heap[gb6a1]? = some (.cells #[.string t2, .string t4, .int .i64 t5, .string t6, .string t7] 72 (0, 0))) := ⟨kT⟩
    have n4_ : Aside0 ((((w8a2.setCell ⟨gb8a1, 0, none⟩ (.string t3)).setCell ⟨gb8a1, 1, none⟩ (.string t9)).setCell ⟨gb8a1, 2, none⟩ (.int .i64 t10)).heap[gb8a1]? = some (.cells #[.string t3, .string t9, .int .i64 t10] 70 (0, 0))) := ⟨kT⟩
    have n5_ : Aside0 (Below w.heap.size w (((w8a2.setCell ⟨gb8a1, 0, none⟩ (.string t3)).setCell ⟨gb8a1, 1, none⟩ (.string t9)).setCell ⟨gb8a1, 2, none⟩ (.int .i64 t10))) := ⟨bE⟩
    (try clear BK1a1)
    (try clear BK2a1)
    (try clear BK3a1)
    (try clear BK6a1)
    (try clear BK8a1)
    (try clear HB)
    generalize (((w8a2.setCell ⟨gb8a1, 0, none⟩ (.string t3)).setCell ⟨gb8a1, 1, none⟩ (.string t9)).setCell ⟨gb8a1, 2, none⟩ (.int .i64 t10)) = w15s1 at n0_ n1_ n2_ n3_ n4_ n5_ ⊢
    have BK1a1 := n0_
    have BK2a1 := n1_
    have BK3a1 := n2_
    have BK6a1 := n3_
    have BK8a1 := n4_
    have HB := n5_
    clear n0_ n1_ n2_ n3_ n4_ n5_
    have n0_ := Aside0.mk (blk_drew BK1a1.out)
    have n1_ := Aside0.mk (blk_drew BK2a1.out)
    have n2_ := Aside0.mk (blk_drew BK3a1.out)
    have n3_ := Aside0.mk (blk_drew BK6a1.out)
    have n4_ := Aside0.mk (blk_drew BK8a1.out)
    have n5_ := Aside0.mk (below_drew1 HB.out)
    clear BK1a1
    clear BK2a1
    clear BK3a1
    clear BK6a1
    clear BK8a1
    clear HB
    have BK1a1 := n0_
    have BK2a1 := n1_
    have BK3a1 := n2_
    have BK6a1 := n3_
    have BK8a1 := n4_
    have HB := n5_
    clear n0_ n1_ n2_ n3_ n4_ n5_
    refine start_ (n := 5) (S := fun w' => w'.cell? ⟨gb6a1, 0, none⟩ = some (.string t2) ∧ w'.cell? ⟨gb6a1, 1, none⟩ = some (.string t4) ∧ w'.cell? ⟨gb6a1, 2, none⟩ = some (.int .i64 t5) ∧ w'.cell? ⟨gb6a1, 3, none⟩ = some (.string t6) ∧ w'.cell? ⟨gb6a1, 4, none⟩ = some (.string t7) ∧ w'.cell? ⟨gb8a1, 0, none⟩ = some (.string t3) ∧ w'.cell? ⟨gb8a1, 1, none⟩ = some (.string t9) ∧ w'.cell? ⟨gb8a1, 2, none⟩ = some (.int .i64 t10)) (ds := []) (bz 5 0) (by kernel_rfl) rfl rfl (bkd5_ BK6a1 (bkc3_ BK8a1)) (fun hHeld => ?_)
    generalize w15s1.drew = w43s1 at BK1a1 BK2a1 BK3a1 BK6a1 BK8a1 HB hHeld ⊢
    refine tA8 (i := 0) (N := some 26) (bz 5 1) (by kernel_rfl) hHeld ?_
    refine tA8 (i := 1) (N := some 27) (bz 5 3) (by kernel_rfl) hHeld ?_
    refine one_ (i := 2) (N := none) (bz 5 7) rfl rfl (by kernel_rfl) (by decide) (fun K hK => ?_)
    have hs47s1 : w43s1.cell? ⟨gb2a1, 0, none⟩ = some (.string (⟨#[]⟩ : ByteArray)) := (blk_cell BK2a1.out 0).trans rfl
    have hfs47s1 := blk_frozen BK2a1.out 0
    have hns47s1_0 := NB1a1_2a1.out
    have hns47s1_2 := NB3a1_2a1.out
    have hns47s1_3 := NB6a1_2a1.out
    have hns47s1_4 := NB8a1_2a1.out
    have hms47s1_0 := NB2a1_1a1.out
    have hms47s1_2 := NB2a1_3a1.out
    have hms47s1_3 := NB2a1_6a1.out
    have hms47s1_4 := NB2a1_8a1.out
    have hs57s1 : w43s1.cell? ⟨gb2a1, 1, none⟩ = some (.string (⟨#[]⟩ : ByteArray)) := (blk_cell BK2a1.out 1).trans rfl
    have hfs57s1 := blk_frozen BK2a1.out 1
    have hns57s1_0 := NB1a1_2a1.out
    have hns57s1_2 := NB3a1_2a1.out
    have hns57s1_3 := NB6a1_2a1.out
    have hns57s1_4 := NB8a1_2a1.out
    have hms57s1_0 := NB2a1_1a1.out
    have hms57s1_2 := NB2a1_3a1.out
    have hms57s1_3 := NB2a1_6a1.out
    have hms57s1_4 := NB2a1_8a1.out
    have hs67s1 : w43s1.cell? ⟨gb2a1, 2, none⟩ = some (.int .i64 0) := (blk_cell BK2a1.out 2).trans rfl
    have hfs67s1 := blk_frozen BK2a1.out 2
    have hns67s1_0 := NB1a1_2a1.out
    have hns67s1_2 := NB3a1_2a1.out
    have hns67s1_3 := NB6a1_2a1.out
    have hns67s1_4 := NB8a1_2a1.out
    have hms67s1_0 := NB2a1_1a1.out
    have hms67s1_2 := NB2a1_3a1.out
    have hms67s1_3 := NB2a1_6a1.out
    have hms67s1_4 := NB2a1_8a1.out
    have hs77s1 : w43s1.cell? ⟨gb2a1, 3, none⟩ = some (.string (⟨#[]⟩ : ByteArray)) := (blk_cell BK2a1.out 3).trans rfl
    have hfs77s1 := blk_frozen BK2a1.out 3
    have hns77s1_0 := NB1a1_2a1.out
    have hns77s1_2 := NB3a1_2a1.out
    have hns77s1_3 := NB6a1_2a1.out
    have hns77s1_4 := NB8a1_2a1.out
    have hms77s1_0 := NB2a1_1a1.out
    have hms77s1_2 := NB2a1_3a1.out
    have hms77s1_3 := NB2a1_6a1.out
    have hms77s1_4 := NB2a1_8a1.out
    have hs87s1 : w43s1.cell? ⟨gb2a1, 4, none⟩ = some (.string (⟨#[]⟩ : ByteArray)) := (blk_cell BK2a1.out 4).trans rfl
    have hfs87s1 := blk_frozen BK2a1.out 4
    have hns87s1_0 := NB1a1_2a1.out
    have hns87s1_2 := NB3a1_2a1.out
    have hns87s1_3 := NB6a1_2a1.out
    have hns87s1_4 := NB8a1_2a1.out
    have hms87s1_0 := NB2a1_1a1.out
    have hms87s1_2 := NB2a1_3a1.out
    have hms87s1_3 := NB2a1_6a1.out
    have hms87s1_4 := NB2a1_8a1.out
    refine skip_ (w1 := ?_) (by rfl) rfl ?_ ?_
    rotate_left
    ·go_simp
     rfl
    refine hK.out _ _ ⟨((cell_far (p := ⟨gb2a1, _, none⟩) NB6a1_2a1.out _).trans (((cell_far (p := ⟨gb2a1, _, none⟩) NB6a1_2a1.out _).trans (((cell_far (p := ⟨gb2a1, _, none⟩) NB6a1_2a1.out _).trans (((cell_far (p := ⟨gb2a1, _, none⟩) NB6a1_2a1.out _).trans (((cell_far (p := ⟨gb2a1, _, none⟩) NB6a1_2a1.out _).trans (hHeld.1)))))))))), ((cell_far (p := ⟨gb2a1, _, none⟩) NB6a1_2a1.out _).trans (((cell_far (p := ⟨gb2a1, _, none⟩) NB6a1_2a1.out _).trans (((cell_far (p := ⟨gb2a1, _, none⟩) NB6a1_2a1.out _).trans (((cell_far (p := ⟨gb2a1, _, none⟩) NB6a1_2a1.out _).trans (((cell_far (p := ⟨gb2a1, _, none⟩) NB6a1_2a1.out _).trans (hHeld.2.1)))))))))), ((cell_far (p := ⟨gb2a1, _, none⟩) NB6a1_2a1.out _).trans (((cell_far (p := ⟨gb2a1, _, none⟩) NB6a1_2a1.out _).trans (((cell_far (p := ⟨gb2a1, _, none⟩) NB6a1_2a1.out _).trans (((cell_far (p := ⟨gb2a1, _, none⟩) NB6a1_2a1.out _).trans (((cell_far (p := ⟨gb2a1, _, none⟩) NB6a1_2a1.out _).trans (hHeld.2.2.1)))))))))), ((cell_far (p := ⟨gb2a1, _, none⟩) NB6a1_2a1.out _).trans (((cell_far (p := ⟨gb2a1, _, none⟩) NB6a1_2a1.out _).trans (((cell_far (p := ⟨gb2a1, _, none⟩) NB6a1_2a1.out _).trans (((cell_far (p := ⟨gb2a1, _, none⟩) NB6a1_2a1.out _).trans (((cell_far (p := ⟨gb2a1, _, none⟩) NB6a1_2a1.out _).trans (hHeld.2.2.2.1)))))))))), ((cell_far (p := ⟨gb2a1, _, none⟩) NB6a1_2a1.out _).trans (((cell_far (p := ⟨gb2a1, _, none⟩) NB6a1_2a1.out _).trans (((cell_far (p := ⟨gb2a1, _, none⟩) NB6a1_2a1.out _).trans (((cell_far (p := ⟨gb2a1, _, none⟩) NB6a1_2a1.out _).trans (((cell_far (p := ⟨gb2a1, _, none⟩) NB6a1_2a1.out _).trans (hHeld.2.2.2.2.1)))))))))), ((cell_far (p := ⟨gb2a1, _, none⟩) NB8a1_2a1.out _).trans (((cell_far (p := ⟨gb2a1, _, none⟩) NB8a1_2a1.out _).trans (((cell_far (p := ⟨gb2a1, _, none⟩) NB8a1_2a1.out _).trans (((cell_far (p := ⟨gb2a1, _, none⟩) NB8a1_2a1.out _).trans (((cell_far (p := ⟨gb2a1, _, none⟩) NB8a1_2a1.out _).trans (hHeld.2.2.2.2.2.1)))))))))), ((cell_far (p := ⟨gb2a1, _, none⟩) NB8a1_2a1.out _).trans (((cell_far (p := ⟨gb2a1, _, none⟩) NB8a1_2a1.out _).trans (((cell_far (p := ⟨gb2a1, _, none⟩) NB8a1_2a1.out _).trans (((cell_far (p := ⟨gb2a1, _, none⟩) NB8a1_2a1.out _).trans (((cell_far (p := ⟨gb2a1, _, none⟩) NB8a1_2a1.out _).trans (hHeld.2.2.2.2.2.2.1)))))))))), ((cell_far (p := ⟨gb2a1, _, none⟩) NB8a1_2a1.out _).trans (((cell_far (p := ⟨gb2a1, _, none⟩) NB8a1_2a1.out _).trans (((cell_far (p := ⟨gb2a1, _, none⟩) NB8a1_2a1.out _).trans (((cell_far (p := ⟨gb2a1, _, none⟩) NB8a1_2a1.out _).trans (((cell_far (p := ⟨gb2a1, _, none⟩) NB8a1_2a1.out _).trans (hHeld.2.2.2.2.2.2.2))))))))))⟩ (fun hHeld => ?_)
    clear hK K
    refine one_ (i := 3) (N := none) (bz 5 15) rfl rfl (by kernel_rfl) (by decide) (fun K hK => ?_)
    have hs104s1 : w43s1.cell? ⟨gb3a1, 0, none⟩ = some (.string (⟨#[]⟩ : ByteArray)) := (blk_cell BK3a1.out 0).trans rfl
    have hfs104s1 := blk_frozen BK3a1.out 0
    have hns104s1_0 := NB1a1_3a1.out
    have hns104s1_1 := NB2a1_3a1.out
    have hns104s1_3 := NB6a1_3a1.out
    have hns104s1_4 := NB8a1_3a1.out
    have hms104s1_0 := NB3a1_1a1.out
    have hms104s1_1 := NB3a1_2a1.out
    have hms104s1_3 := NB3a1_6a1.out
    have hms104s1_4 := NB3a1_8a1.out
    have hs114s1 : w43s1.cell? ⟨gb3a1, 1, none⟩ = some (.string (⟨#[]⟩ : ByteArray)) := (blk_cell BK3a1.out 1).trans rfl
    have hfs114s1 := blk_frozen BK3a1.out 1
    have hns114s1_0 := NB1a1_3a1.out
    have hns114s1_1 := NB2a1_3a1.out
    have hns114s1_3 := NB6a1_3a1.out
    have hns114s1_4 := NB8a1_3a1.out
    have hms114s1_0 := NB3a1_1a1.out
    have hms114s1_1 := NB3a1_2a1.out
    have hms114s1_3 := NB3a1_6a1.out
    have hms114s1_4 := NB3a1_8a1.out
    have hs124s1 : w43s1.cell? ⟨gb3a1, 2, none⟩ = some (.int .i64 0) := (blk_cell BK3a1.out 2).trans rfl
    have hfs124s1 := blk_frozen BK3a1.out 2
    have hns124s1_0 := NB1a1_3a1.out
    have hns124s1_1 := NB2a1_3a1.out
    have hns124s1_3 := NB6a1_3a1.out
    have hns124s1_4 := NB8a1_3a1.out
    have hms124s1_0 := NB3a1_1a1.out
    have hms124s1_1 := NB3a1_2a1.out
    have hms124s1_3 := NB3a1_6a1.out
    have hms124s1_4 := NB3a1_8a1.out
    refine skip_ (w1 := ?_) (by rfl) rfl ?_ ?_
    rotate_left
    ·go_simp
     rfl
    refine hK.out _ _ ⟨((cell_far (p := ⟨gb3a1, _, none⟩) NB6a1_3a1.out _).trans (((cell_far (p := ⟨gb3a1, _, none⟩) NB6a1_3a1.out _).trans (((cell_far (p := ⟨gb3a1, _, none⟩) NB6a1_3a1.out _).trans (hHeld.1)))))), ((cell_far (p := ⟨gb3a1, _, none⟩) NB6a1_3a1.out _).trans (((cell_far (p := ⟨gb3a1, _, none⟩) NB6a1_3a1.out _).trans (((cell_far (p := ⟨gb3a1, _, none⟩) NB6a1_3a1.out _).trans (hHeld.2.1)))))), ((cell_far (p := ⟨gb3a1, _, none⟩) NB6a1_3a1.out _).trans (((cell_far (p := ⟨gb3a1, _, none⟩) NB6a1_3a1.out _).trans (((cell_far (p := ⟨gb3a1, _, none⟩) NB6a1_3a1.out _).trans (hHeld.2.2.1)))))), ((cell_far (p := ⟨gb3a1, _, none⟩) NB6a1_3a1.out _).trans (((cell_far (p := ⟨gb3a1, _, none⟩) NB6a1_3a1.out _).trans (((cell_far (p := ⟨gb3a1, _, none⟩) NB6a1_3a1.out _).trans (hHeld.2.2.2.1)))))), ((cell_far (p := ⟨gb3a1, _, none⟩) NB6a1_3a1.out _).trans (((cell_far (p := ⟨gb3a1, _, none⟩) NB6a1_3a1.out _).trans (((cell_far (p := ⟨gb3a1, _, none⟩) NB6a1_3a1.out _).trans (hHeld.2.2.2.2.1)))))), ((cell_far (p := ⟨gb3a1, _, none⟩) NB8a1_3a1.out _).trans (((cell_far (p := ⟨gb3a1, _, none⟩) NB8a1_3a1.out _).trans (((cell_far (p := ⟨gb3a1, _, none⟩) NB8a1_3a1.out _).trans (hHeld.2.2.2.2.2.1)))))), ((cell_far (p := ⟨gb3a1, _, none⟩) NB8a1_3a1.out _).trans (((cell_far (p := ⟨gb3a1, _, none⟩) NB8a1_3a1.out _).trans (((cell_far (p := ⟨gb3a1, _, none⟩) NB8a1_3a1.out _).trans (hHeld.2.2.2.2.2.2.1)))))), ((cell_far (p := ⟨gb3a1, _, none⟩) NB8a1_3a1.out _).trans (((cell_far (p := ⟨gb3a1, _, none⟩) NB8a1_3a1.out _).trans (((cell_far (p := ⟨gb3a1, _, none⟩) NB8a1_3a1.out _).trans (hHeld.2.2.2.2.2.2.2))))))⟩ (fun hHeld => ?_)
    clear hK K
    refine pA (i := 4) (N := some 4) (bz 5 31) (by kernel_rfl) ?_
    refine done_ (by kernel_rfl) ?_
    try go_wp2
    refine bodyPost_ret (results_list (rs := [.cell 2 72, .cell 3 70, .tmp 4]) rfl (by simp) (.cell gb2a1 72 #[.string t2, .string t4, .int .i64 t5, .string t6, .string t7] (0, 0) _ rfl (kT) Tryz.underlying72 rfl (by kernel_rfl) (.cell gb3a1 70 #[.string t3, .string t9, .int .i64 t10] (0, 0) _ rfl (kT) Tryz.underlying70 rfl (by kernel_rfl) (.tmp .nil)))) rfl ?_
    exact ⟨rE, bE⟩
  | clear M4_1
    refine bodyPost_ret (results_list (rs := [.cell 2 72, .cell 3 70, .tmp 4]) rfl (by simp) (.cell gb2a1 72 #[.string (⟨#[]⟩ : ByteArray), .string (⟨#[]⟩ : ByteArray), .int .i64 0, .string (⟨#[]⟩ : ByteArray), .string (⟨#[]⟩ : ByteArray)] (0, 0) _ rfl (kT) Tryz.underlying72 rfl (by kernel_rfl) (.cell gb3a1 70 #[.string (⟨#[]⟩ : ByteArray), .string (⟨#[]⟩ : ByteArray), .int .i64 0] (0, 0) _ rfl (kT) Tryz.underlying70 rfl (by kernel_rfl) (.tmp .nil)))) rfl ?_
    exact ⟨rE, bE⟩

/-! ### ask_Cross: function 16 -/
def ask_Cross.f (k : Nat) (a0_0 : ByteArray) (a0_1 : ByteArray) (a0_2 : ByteArray) (a0_3 : Int) (a0_4 : Bool) (l0_5 : List (S28)) (a0_6 : Int) (a0_7 : Int) (a0_8 : Int) (a0_9 : Int) : Option (Bool) := (ask_parts.f k a0_0 a0_1 a0_2 a0_3 a0_4 l0_5 a0_6 a0_7 a0_8 a0_9).bind fun bt304 => (if bt304.2.2.2.2.2.2.2.2 = true then (some (!(bt304.1.toList == bt304.2.2.2.2.2.1.toList) || (!(bt304.2.1.toList == bt304.2.2.2.2.2.2.1.toList) || (!(bt304.2.2.1 == bt304.2.2.2.2.2.2.2.1))))) else (some false))
theorem ask_Cross.mono : ∀ a0 a1 a2 a3 a4 a5 a6 a7 a8 a9 k, LeO (ask_Cross.f k a0 a1 a2 a3 a4 a5 a6 a7 a8 a9) (ask_Cross.f (k + 1) a0 a1 a2 a3 a4 a5 a6 a7 a8 a9) := by
 intro a0 a1 a2 a3 a4 a5 a6 a7 a8 a9 k
 have hm0 := @ask_parts.mono; unfold ask_Cross.f
 exact moE

set_option maxHeartbeats 8000000 in
set_option maxRecDepth 100000 in
theorem ask_Cross.calls (k : Nat) (a0_0 : ByteArray) (a0_1 : ByteArray) (a0_2 : ByteArray) (a0_3 : Int) (a0_4 : Bool) (A0_5 : Option Addr) (c0_5 : Nat) (l0_5 : List (S28)) (a0_6 : Int) (a0_7 : Int) (a0_8 : Int) (a0_9 : Int) (r : Bool) (w : World) (hr0_5 : Kd.C k28 w A0_5 l0_5.length l0_5) (hc0_5 : l0_5.length ≤ c0_5) (hM_ : Aside0 (LaidW w)) (h : ask_Cross.f k a0_0 a0_1 a0_2 a0_3 a0_4 l0_5 a0_6 a0_7 a0_8 a0_9 = some r) :
  Calls Tryz.prog 16 #[.agg #[.string a0_0, .string a0_1, .string a0_2, .int .i64 a0_3, .bool a0_4, .slice A0_5 l0_5.length c0_5, .int .i64 a0_6, .int .u64 a0_7, .int .i64 a0_8, .int .i64 a0_9]] w fun e w' => e = .returned (.bool r) ∧ Below w.heap.size w w' := by
 have hu26 := Tryz.underlying26
 have hu72 := Tryz.underlying72
 have hu70 := Tryz.underlying70
 have HR1_5 := Aside0.mk hr0_5
 have HC1_5 := Aside0.mk hc0_5
 clear hr0_5 hc0_5
 have HB := Aside0.mk (Below.refl w.heap.size w)
 have H : ((ask_parts.f k a0_0 a0_1 a0_2 a0_3 a0_4 l0_5 a0_6 a0_7 a0_8 a0_9).bind fun bt1 => (if bt1.2.2.2.2.2.2.2.2 = true then (some (!(bt1.1.toList == bt1.2.2.2.2.2.1.toList) || (!(bt1.2.1.toList == bt1.2.2.2.2.2.2.1.toList) || (!(bt1.2.2.1 == bt1.2.2.2.2.2.2.2.1))))) else (some false))) = some r := h
 clear h
 replace H := bd_ H; obtain ⟨⟨t1, t2, t3, t4, t5, t6, t7, t8, t9⟩, A2, H⟩ := H
 replace H : (if t9 = true then (some (!(t1.toList == t6.toList) || (!(t2.toList == t7.toList) || (!(t3 == t8))))) else (some false)) = some r := H
 refine em_ (t9 = true) (fun c3 => ?g1p) (fun c3 => ?g1n)
 case' g1p =>
  subst c3
  replace H := ifT_ H
  obtain rfl := si_ H
 case' g1n =>
  replace c3 := Bool.eq_false_iff.mpr c3
  subst c3
  replace H := ifF_ H
  obtain rfl := si_ H
 all_goals
  go_enter Tryz.func16, Tryz.ntmps16
  go_wp2_with (first | ((with_reducible refine gate_dst (N := 1) rfl ?_); refine bxE (N := 1) (cs := #[.string a0_0, .string a0_1, .string a0_2, .int .i64 a0_3, .bool a0_4, .slice A0_5 l0_5.length c0_5, .int .i64 a0_6, .int .u64 a0_7, .int .i64 a0_8, .int .i64 a0_9]) (t := 26) fun gb1a1 hg w1a2 hbox hb => ?_; obtain ⟨HB', BK1a1, GW1a1⟩ := bx_ bE hg hbox hb; have GE1a1 := GW1a1; clear HB hb hbox hg; have HB := HB'; clear HB'; obtain ⟨z1a3_0, z1a3_1, z1a3_2, z1a3_3, z1a3_4, z1a3_5, z1a3_6, z1a3_7, z1a3_8, z1a3_9, zf1a3_0, zf1a3_1, zf1a3_2, zf1a3_3, zf1a3_4, zf1a3_5, zf1a3_6, zf1a3_7, zf1a3_8, zf1a3_9⟩ := bk10_ BK1a1) | ((with_reducible refine gate_callee (f := 49) rfl ?_); refine gL (some 8) Tryz.func49 #[.agg #[.string a0_0, .string a0_1, .string a0_2, .int .i64 a0_3, .bool a0_4, .slice A0_5 l0_5.length c0_5, .int .i64 a0_6, .int .u64 a0_7, .int .i64 a0_8, .int .i64 a0_9]] ?_; (with_reducible refine (ask_parts.calls k a0_0 a0_1 a0_2 a0_3 a0_4 _ _ l0_5 a0_6 a0_7 a0_8 a0_9 t1 t2 t3 t4 t5 t6 t7 t8 true _ ?side1 ?side2 ?side3 A2.out).mono ?_); (case side1 => repeat (first | exact (Kd.C_below HR1_5.out HB.out) | (with_reducible refine Kd.C_alloc ?_ _) | (with_reducible refine Kd.C_drewN ?_ _) | (with_reducible refine Kd.C_drew ?_))); (case side2 => exact HC1_5.out); (case side3 => exact ⟨lE⟩); rintro e w2a1 ⟨rfl, hb⟩; refine ⟨_, rfl, ?_⟩; replace BK1a1 := kM BK1a1 hb; replace HB := bS bE hb; (try clear hb)) | ((with_reducible refine gate_dst (N := 3) rfl ?_); refine bxE (N := 3) (cs := #[.string (⟨#[]⟩ : ByteArray), .string (⟨#[]⟩ : ByteArray), .int .i64 0, .string (⟨#[]⟩ : ByteArray), .string (⟨#[]⟩ : ByteArray)]) (t := 72) fun gb3a1 hg w3a2 hbox hb => ?_; have BK3a1 := Aside0.mk (hbox); have GW3a1 := sE (w := w) hg; have GE3a1 := sE (w := w) hg; have NB1a1_3a1 := neL BK1a1 hg; have NB3a1_1a1 := neG BK1a1 hg; replace BK1a1 := kM BK1a1 hb; replace HB := bS bE hb; clear hb hbox hg) | ((with_reducible refine gate_dst (N := 4) rfl ?_); refine bxE (N := 4) (cs := #[.string (⟨#[]⟩ : ByteArray), .string (⟨#[]⟩ : ByteArray), .int .i64 0]) (t := 70) fun gb4a1 hg w4a2 hbox hb => ?_; have BK4a1 := Aside0.mk (hbox); have GW4a1 := sE (w := w) hg; have GE4a1 := sE (w := w) hg; have NB1a1_4a1 := neL BK1a1 hg; have NB4a1_1a1 := neG BK1a1 hg; have NB3a1_4a1 := neL BK3a1 hg; have NB4a1_3a1 := neG BK3a1 hg; replace BK1a1 := kM BK1a1 hb; replace BK3a1 := kM BK3a1 hb; replace HB := bS bE hb; clear hb hbox hg; have hnb4a3 := NB3a1_1a1.out; have hnc4a3 := NB1a1_3a1.out; have hnb4a4 := NB3a1_4a1.out; have hnc4a4 := NB4a1_3a1.out; obtain ⟨z4a5_0, z4a5_1, z4a5_2, z4a5_3, z4a5_4, zf4a5_0, zf4a5_1, zf4a5_2, zf4a5_3, zf4a5_4⟩ := bk5_ BK3a1; have hnb4a6 := NB4a1_1a1.out; have hnc4a6 := NB1a1_4a1.out; obtain ⟨z4a7_0, z4a7_1, z4a7_2, zf4a7_0, zf4a7_1, zf4a7_2⟩ := bk3_ BK4a1) | ((with_reducible refine gate_callee (f := 49) rfl ?_); refine gL (some 8) Tryz.func49 #[.agg #[.string a0_0, .string a0_1, .string a0_2, .int .i64 a0_3, .bool a0_4, .slice A0_5 l0_5.length c0_5, .int .i64 a0_6, .int .u64 a0_7, .int .i64 a0_8, .int .i64 a0_9]] ?_; (with_reducible refine (ask_parts.calls k a0_0 a0_1 a0_2 a0_3 a0_4 _ _ l0_5 a0_6 a0_7 a0_8 a0_9 t1 t2 t3 t4 t5 t6 t7 t8 false _ ?side1 ?side2 ?side3 A2.out).mono ?_); (case side1 => repeat (first | exact (Kd.C_below HR1_5.out HB.out) | (with_reducible refine Kd.C_alloc ?_ _) | (with_reducible refine Kd.C_drewN ?_ _) | (with_reducible refine Kd.C_drew ?_))); (case side2 => exact HC1_5.out); (case side3 => exact ⟨lE⟩); rintro e w5a1 ⟨rfl, hb⟩; refine ⟨_, rfl, ?_⟩; replace BK1a1 := kM BK1a1 hb; replace HB := bS bE hb; (try clear hb)))
  go_ret
  exact ⟨rE, bE⟩

/-! ### ask_Needs: function 14 -/
def ask_Needs.f (k : Nat) (a0_0 : ByteArray) (a0_1 : ByteArray) (a0_2 : ByteArray) (a0_3 : Int) (a0_4 : Bool) (l0_5 : List (S28)) (a0_6 : Int) (a0_7 : Int) (a0_8 : Int) (a0_9 : Int) : Option (Bool) := if a0_3 = 3 then ((ask_Cross.f k a0_0 a0_1 a0_2 a0_3 a0_4 l0_5 a0_6 a0_7 a0_8 a0_9).bind fun t316 => (if t316 = true then ((ask_plain.f k a0_0 a0_1 a0_2 a0_3 a0_4 l0_5 a0_6 a0_7 a0_8 a0_9).bind fun t317 => (some (!t317))) else (some false))) else (some false)
theorem ask_Needs.mono : ∀ a0 a1 a2 a3 a4 a5 a6 a7 a8 a9 k, LeO (ask_Needs.f k a0 a1 a2 a3 a4 a5 a6 a7 a8 a9) (ask_Needs.f (k + 1) a0 a1 a2 a3 a4 a5 a6 a7 a8 a9) := by
 intro a0 a1 a2 a3 a4 a5 a6 a7 a8 a9 k
 have hm0 := @ask_Cross.mono; have hm1 := @ask_plain.mono; unfold ask_Needs.f
 exact moE

set_option maxHeartbeats 8000000 in
set_option maxRecDepth 100000 in
theorem ask_Needs.calls (k : Nat) (a0_0 : ByteArray) (a0_1 : ByteArray) (a0_2 : ByteArray) (a0_3 : Int) (a0_4 : Bool) (A0_5 : Option Addr) (c0_5 : Nat) (l0_5 : List (S28)) (a0_6 : Int) (a0_7 : Int) (a0_8 : Int) (a0_9 : Int) (r : Bool) (w : World) (hr0_5 : Kd.C k28 w A0_5 l0_5.length l0_5) (hc0_5 : l0_5.length ≤ c0_5) (hM_ : Aside0 (LaidW w)) (h : ask_Needs.f k a0_0 a0_1 a0_2 a0_3 a0_4 l0_5 a0_6 a0_7 a0_8 a0_9 = some r) :
  Calls Tryz.prog 14 #[.agg #[.string a0_0, .string a0_1, .string a0_2, .int .i64 a0_3, .bool a0_4, .slice A0_5 l0_5.length c0_5, .int .i64 a0_6, .int .u64 a0_7, .int .i64 a0_8, .int .i64 a0_9]] w fun e w' => e = .returned (.bool r) ∧ Below w.heap.size w w' := by
 have hu26 := Tryz.underlying26
 have HR1_5 := Aside0.mk hr0_5
 have HC1_5 := Aside0.mk hc0_5
 clear hr0_5 hc0_5
 have HB := Aside0.mk (Below.refl w.heap.size w)
 have H : (if a0_3 = 3 then ((ask_Cross.f k a0_0 a0_1 a0_2 a0_3 a0_4 l0_5 a0_6 a0_7 a0_8 a0_9).bind fun t1 => (if t1 = true then ((ask_plain.f k a0_0 a0_1 a0_2 a0_3 a0_4 l0_5 a0_6 a0_7 a0_8 a0_9).bind fun t2 => (some (!t2))) else (some false))) else (some false)) = some r := h
 clear h
 refine em_ (a0_3 = 3) (fun c2 => ?g1p) (fun c2 => ?g1n)
 case' g1p =>
  rw [if_pos c2] at H
  have c2b0 : (a0_3 == 3) = true := beq_iff_eq.mpr c2
  have c2b1 : (a0_3 != 3) = false := bne_eq_false_iff_eq.mpr c2
  clear c2
  replace H := bd_ H; obtain ⟨t1, A3, H⟩ := H
  refine em_ (t1 = true) (fun c4 => ?g2p) (fun c4 => ?g2n)
  case' g2p =>
   subst c4
   replace H := ifT_ H
   replace H := bd_ H; obtain ⟨t2, A5, H⟩ := H
   obtain rfl := si_ H
  case' g2n =>
   replace c4 := Bool.eq_false_iff.mpr c4
   subst c4
   replace H := ifF_ H
   obtain rfl := si_ H
 case' g1n =>
  rw [if_neg c2] at H
  have c2b0 : (a0_3 == 3) = false := beq_eq_false_iff_ne.mpr c2
  have c2b1 : (a0_3 != 3) = true := bne_iff_ne.mpr c2
  obtain rfl := si_ H
 all_goals
  go_enter Tryz.func14, Tryz.ntmps14
  go_wp2_with (first | ((with_reducible refine gate_dst (N := 1) rfl ?_); refine bxE (N := 1) (cs := #[.string a0_0, .string a0_1, .string a0_2, .int .i64 a0_3, .bool a0_4, .slice A0_5 l0_5.length c0_5, .int .i64 a0_6, .int .u64 a0_7, .int .i64 a0_8, .int .i64 a0_9]) (t := 26) fun gb1a1 hg w1a2 hbox hb => ?_; obtain ⟨HB', BK1a1, GW1a1⟩ := bx_ bE hg hbox hb; have GE1a1 := GW1a1; clear HB hb hbox hg; have HB := HB'; clear HB'; obtain ⟨z1a3_0, z1a3_1, z1a3_2, z1a3_3, z1a3_4, z1a3_5, z1a3_6, z1a3_7, z1a3_8, z1a3_9, zf1a3_0, zf1a3_1, zf1a3_2, zf1a3_3, zf1a3_4, zf1a3_5, zf1a3_6, zf1a3_7, zf1a3_8, zf1a3_9⟩ := bk10_ BK1a1) | (go_at_call 16; (with_reducible refine (ask_Cross.calls k a0_0 a0_1 a0_2 a0_3 a0_4 _ _ l0_5 a0_6 a0_7 a0_8 a0_9 true _ ?side1 ?side2 ?side3 A3.out).mono ?_); (case side1 => repeat (first | exact (Kd.C_below HR1_5.out HB.out) | (with_reducible refine Kd.C_alloc ?_ _) | (with_reducible refine Kd.C_drewN ?_ _) | (with_reducible refine Kd.C_drew ?_))); (case side2 => exact HC1_5.out); (case side3 => exact ⟨lE⟩); rintro e w2a1 ⟨rfl, hb⟩; replace BK1a1 := kM BK1a1 hb; replace HB := bS bE hb; (try clear hb); obtain ⟨z2a2_0, z2a2_1, z2a2_2, z2a2_3, z2a2_4, z2a2_5, z2a2_6, z2a2_7, z2a2_8, z2a2_9, zf2a2_0, zf2a2_1, zf2a2_2, zf2a2_3, zf2a2_4, zf2a2_5, zf2a2_6, zf2a2_7, zf2a2_8, zf2a2_9⟩ := bk10_ BK1a1) | (go_at_call 48; (with_reducible refine (ask_plain.calls k a0_0 a0_1 a0_2 a0_3 a0_4 _ _ l0_5 a0_6 a0_7 a0_8 a0_9 t2 _ ?side1 ?side2 ?side3 A5.out).mono ?_); (case side1 => repeat (first | exact (Kd.C_below HR1_5.out HB.out) | (with_reducible refine Kd.C_alloc ?_ _) | (with_reducible refine Kd.C_drewN ?_ _) | (with_reducible refine Kd.C_drew ?_))); (case side2 => exact HC1_5.out); (case side3 => exact ⟨lE⟩); rintro e w3a1 ⟨rfl, hb⟩; replace BK1a1 := kM BK1a1 hb; replace HB := bS bE hb; (try clear hb)) | (go_at_call 16; (with_reducible refine (ask_Cross.calls k a0_0 a0_1 a0_2 a0_3 a0_4 _ _ l0_5 a0_6 a0_7 a0_8 a0_9 false _ ?side1 ?side2 ?side3 A3.out).mono ?_); (case side1 => repeat (first | exact (Kd.C_below HR1_5.out HB.out) | (with_reducible refine Kd.C_alloc ?_ _) | (with_reducible refine Kd.C_drewN ?_ _) | (with_reducible refine Kd.C_drew ?_))); (case side2 => exact HC1_5.out); (case side3 => exact ⟨lE⟩); rintro e w4a1 ⟨rfl, hb⟩; replace BK1a1 := kM BK1a1 hb; replace HB := bS bE hb; (try clear hb)))
  go_ret
  exact ⟨rE, bE⟩

/-! ### ask_Key: function 27 -/
def ask_Key.f (k : Nat) (a0_0 : ByteArray) (a0_1 : ByteArray) (a0_2 : ByteArray) (a0_3 : Int) (a0_4 : Bool) (l0_5 : List (S28)) (a0_6 : Int) (a0_7 : Int) (a0_8 : Int) (a0_9 : Int) : Option (ByteArray) := (ask_parts.f k a0_0 a0_1 a0_2 a0_3 a0_4 l0_5 a0_6 a0_7 a0_8 a0_9).bind fun bt319 => (if bt319.2.2.2.2.2.2.2.2 = true then ((origin_Key.f k bt319.1 bt319.2.1 bt319.2.2.1).bind fun t330 => (some t330)) else (some (⟨#[]⟩ : ByteArray)))
theorem ask_Key.mono : ∀ a0 a1 a2 a3 a4 a5 a6 a7 a8 a9 k, LeO (ask_Key.f k a0 a1 a2 a3 a4 a5 a6 a7 a8 a9) (ask_Key.f (k + 1) a0 a1 a2 a3 a4 a5 a6 a7 a8 a9) := by
 intro a0 a1 a2 a3 a4 a5 a6 a7 a8 a9 k
 have hm0 := @ask_parts.mono; have hm1 := @origin_Key.mono; unfold ask_Key.f
 exact moE

set_option maxHeartbeats 8000000 in
set_option maxRecDepth 100000 in
theorem ask_Key.calls (k : Nat) (a0_0 : ByteArray) (a0_1 : ByteArray) (a0_2 : ByteArray) (a0_3 : Int) (a0_4 : Bool) (A0_5 : Option Addr) (c0_5 : Nat) (l0_5 : List (S28)) (a0_6 : Int) (a0_7 : Int) (a0_8 : Int) (a0_9 : Int) (r : ByteArray) (w : World) (hr0_5 : Kd.C k28 w A0_5 l0_5.length l0_5) (hc0_5 : l0_5.length ≤ c0_5) (hM_ : Aside0 (LaidW w)) (h : ask_Key.f k a0_0 a0_1 a0_2 a0_3 a0_4 l0_5 a0_6 a0_7 a0_8 a0_9 = some r) :
  Calls Tryz.prog 27 #[.agg #[.string a0_0, .string a0_1, .string a0_2, .int .i64 a0_3, .bool a0_4, .slice A0_5 l0_5.length c0_5, .int .i64 a0_6, .int .u64 a0_7, .int .i64 a0_8, .int .i64 a0_9]] w fun e w' => e = .returned (.string r) ∧ Below w.heap.size w w' := by
 have hu26 := Tryz.underlying26
 have hu72 := Tryz.underlying72
 have hu70 := Tryz.underlying70
 have HR1_5 := Aside0.mk hr0_5
 have HC1_5 := Aside0.mk hc0_5
 clear hr0_5 hc0_5
 have HB := Aside0.mk (Below.refl w.heap.size w)
 have H : ((ask_parts.f k a0_0 a0_1 a0_2 a0_3 a0_4 l0_5 a0_6 a0_7 a0_8 a0_9).bind fun bt1 => (if bt1.2.2.2.2.2.2.2.2 = true then ((origin_Key.f k bt1.1 bt1.2.1 bt1.2.2.1).bind fun t2 => (some t2)) else (some (⟨#[]⟩ : ByteArray)))) = some r := h
 clear h
 replace H := bd_ H; obtain ⟨⟨t1, t3, t4, t5, t6, t7, t8, t9, t10⟩, A2, H⟩ := H
 replace H : (if t10 = true then ((origin_Key.f k t1 t3 t4).bind fun t2 => (some t2)) else (some (⟨#[]⟩ : ByteArray))) = some r := H
 refine em_ (t10 = true) (fun c3 => ?g1p) (fun c3 => ?g1n)
 case' g1p =>
  subst c3
  replace H := ifT_ H
  replace H := bd_ H; obtain ⟨t2, A4, H⟩ := H
  obtain rfl := si_ H
 case' g1n =>
  replace c3 := Bool.eq_false_iff.mpr c3
  subst c3
  replace H := ifF_ H
  obtain rfl := si_ H
 all_goals
  go_enter Tryz.func27, Tryz.ntmps27
  go_wp2_with (first | ((with_reducible refine gate_dst (N := 1) rfl ?_); refine bxE (N := 1) (cs := #[.string a0_0, .string a0_1, .string a0_2, .int .i64 a0_3, .bool a0_4, .slice A0_5 l0_5.length c0_5, .int .i64 a0_6, .int .u64 a0_7, .int .i64 a0_8, .int .i64 a0_9]) (t := 26) fun gb1a1 hg w1a2 hbox hb => ?_; obtain ⟨HB', BK1a1, GW1a1⟩ := bx_ bE hg hbox hb; have GE1a1 := GW1a1; clear HB hb hbox hg; have HB := HB'; clear HB'; obtain ⟨z1a3_0, z1a3_1, z1a3_2, z1a3_3, z1a3_4, z1a3_5, z1a3_6, z1a3_7, z1a3_8, z1a3_9, zf1a3_0, zf1a3_1, zf1a3_2, zf1a3_3, zf1a3_4, zf1a3_5, zf1a3_6, zf1a3_7, zf1a3_8, zf1a3_9⟩ := bk10_ BK1a1) | ((with_reducible refine gate_callee (f := 49) rfl ?_); refine gL (some 8) Tryz.func49 #[.agg #[.string a0_0, .string a0_1, .string a0_2, .int .i64 a0_3, .bool a0_4, .slice A0_5 l0_5.length c0_5, .int .i64 a0_6, .int .u64 a0_7, .int .i64 a0_8, .int .i64 a0_9]] ?_; (with_reducible refine (ask_parts.calls k a0_0 a0_1 a0_2 a0_3 a0_4 _ _ l0_5 a0_6 a0_7 a0_8 a0_9 t1 t3 t4 t5 t6 t7 t8 t9 true _ ?side1 ?side2 ?side3 A2.out).mono ?_); (case side1 => repeat (first | exact (Kd.C_below HR1_5.out HB.out) | (with_reducible refine Kd.C_alloc ?_ _) | (with_reducible refine Kd.C_drewN ?_ _) | (with_reducible refine Kd.C_drew ?_))); (case side2 => exact HC1_5.out); (case side3 => exact ⟨lE⟩); rintro e w2a1 ⟨rfl, hb⟩; refine ⟨_, rfl, ?_⟩; replace BK1a1 := kM BK1a1 hb; replace HB := bS bE hb; (try clear hb)) | ((with_reducible refine gate_dst (N := 3) rfl ?_); refine bxE (N := 3) (cs := #[.string (⟨#[]⟩ : ByteArray), .string (⟨#[]⟩ : ByteArray), .int .i64 0, .string (⟨#[]⟩ : ByteArray), .string (⟨#[]⟩ : ByteArray)]) (t := 72) fun gb3a1 hg w3a2 hbox hb => ?_; have BK3a1 := Aside0.mk (hbox); have GW3a1 := sE (w := w) hg; have GE3a1 := sE (w := w) hg; have NB1a1_3a1 := neL BK1a1 hg; have NB3a1_1a1 := neG BK1a1 hg; replace BK1a1 := kM BK1a1 hb; replace HB := bS bE hb; clear hb hbox hg) | ((with_reducible refine gate_dst (N := 4) rfl ?_); refine bxE (N := 4) (cs := #[.string (⟨#[]⟩ : ByteArray), .string (⟨#[]⟩ : ByteArray), .int .i64 0]) (t := 70) fun gb4a1 hg w4a2 hbox hb => ?_; have BK4a1 := Aside0.mk (hbox); have GW4a1 := sE (w := w) hg; have GE4a1 := sE (w := w) hg; have NB1a1_4a1 := neL BK1a1 hg; have NB4a1_1a1 := neG BK1a1 hg; have NB3a1_4a1 := neL BK3a1 hg; have NB4a1_3a1 := neG BK3a1 hg; replace BK1a1 := kM BK1a1 hb; replace BK3a1 := kM BK3a1 hb; replace HB := bS bE hb; clear hb hbox hg; have hnb4a3 := NB3a1_1a1.out; have hnc4a3 := NB1a1_3a1.out; have hnb4a4 := NB3a1_4a1.out; have hnc4a4 := NB4a1_3a1.out; obtain ⟨z4a5_0, z4a5_1, z4a5_2, z4a5_3, z4a5_4, zf4a5_0, zf4a5_1, zf4a5_2, zf4a5_3, zf4a5_4⟩ := bk5_ BK3a1; have hnb4a6 := NB4a1_1a1.out; have hnc4a6 := NB1a1_4a1.out; obtain ⟨z4a7_0, z4a7_1, z4a7_2, zf4a7_0, zf4a7_1, zf4a7_2⟩ := bk3_ BK4a1) | ((with_reducible refine gate_callee (f := 66) rfl ?_); refine gL (some 16) Tryz.func66 #[.agg #[.string t1, .string t3, .int .i64 t4]] ?_; (with_reducible refine (origin_Key.calls k t1 t3 t4 _ _ ?side1 A4.out).mono ?_); (case side1 => exact ⟨lE⟩); rintro e w5a1 ⟨rfl, hb⟩; refine ⟨_, rfl, ?_⟩; have n0_ := kF BK1a1 hb; have n1_ := Aside0.mk (blk_below (g := gb3a1) (o := .cells #[.string t1, .string t3, .int .i64 t4, .string t5, .string t6] 72 (0, 0)) (kT) hb); have n2_ := Aside0.mk (blk_below (g := gb4a1) (o := .cells #[.string t7, .string t8, .int .i64 t9] 70 (0, 0)) (kT) hb); have n3_ := bS bE hb; clear BK1a1; clear BK3a1; clear BK4a1; clear HB; have BK1a1 := n0_; have BK3a1 := n1_; have BK4a1 := n2_; have HB := n3_; clear n0_ n1_ n2_ n3_; (try clear hb); (try clear hb2); (try clear hk); (try clear hi)) | ((with_reducible refine gate_callee (f := 49) rfl ?_); refine gL (some 8) Tryz.func49 #[.agg #[.string a0_0, .string a0_1, .string a0_2, .int .i64 a0_3, .bool a0_4, .slice A0_5 l0_5.length c0_5, .int .i64 a0_6, .int .u64 a0_7, .int .i64 a0_8, .int .i64 a0_9]] ?_; (with_reducible refine (ask_parts.calls k a0_0 a0_1 a0_2 a0_3 a0_4 _ _ l0_5 a0_6 a0_7 a0_8 a0_9 t1 t3 t4 t5 t6 t7 t8 t9 false _ ?side1 ?side2 ?side3 A2.out).mono ?_); (case side1 => repeat (first | exact (Kd.C_below HR1_5.out HB.out) | (with_reducible refine Kd.C_alloc ?_ _) | (with_reducible refine Kd.C_drewN ?_ _) | (with_reducible refine Kd.C_drew ?_))); (case side2 => exact HC1_5.out); (case side3 => exact ⟨lE⟩); rintro e w6a1 ⟨rfl, hb⟩; refine ⟨_, rfl, ?_⟩; replace BK1a1 := kM BK1a1 hb; replace HB := bS bE hb; (try clear hb)))
  go_ret
  exact ⟨rE, bE⟩

end Go.Proofs.YtfmajangcbgooaaGreatDoor.Pr
