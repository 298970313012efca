-- Made by a program of this session (wip/xp/xp.py), over the print's words.
import Derived.Test.YtfmajangcbgooaaGreatDoorPr0
import Derived.Test.YtfmajangcbgooaaGreatDoorK0
import Derived.Test.YtfmajangcbgooaaGreatDoorPr7
import Derived.Test.YtfmajangcbgooaaGreatDoorPr10
import Derived.Test.YtfmajangcbgooaaGreatDoorPr13
import Derived.Test.YtfmajangcbgooaaGreatDoorPr14
import Derived.Test.YtfmajangcbgooaaGreatDoorPr15
import Derived.Test.YtfmajangcbgooaaGreatDoorG1
import Derived.Test.YtfmajangcbgooaaGreatDoorG5
namespace Go.Proofs.YtfmajangcbgooaaGreatDoor.Pr
open Go.RowKit Go.Proofs.YtfmajangcbgooaaGreatDoorW.PrintWords Go.Proofs.YtfmajangcbgooaaGreatDoorW.PrintLast Go.Proofs.YtfmajangcbgooaaGreatDoorW.PrintMore
attribute [local go_sem] max2_int min2_int max_two min_two max_three min_three max_four min_four   -- for this text's walks alone
set_option linter.unusedVariables false
set_option linter.unusedSimpArgs false

/-! ### header_Norm: function 60 -/
def header_Norm.l0 : Nat → List (S28) → List (S28) → Int → Int → Option ((List (S28)))
 | 0, _, _, _, _ => none
 | k + 1, x3, x6, x7, x8 => if x8 < x7 then (if 0 ≤ x8 then (if x8 < (x6.length : Int) then ((octet_Lower.f ((rd_T28 x6 x8).f0)).bind fun t366 => ((octet_Trim.f k ((rd_T28 x6 x8).f1)).bind fun t367 => (if x3.length < 4398046511104 then (header_Norm.l0 k (x3 ++ [(⟨t366, t367⟩ : S28)]) x6 x7 (wrap64 (x8 + 1))) else (none)))) else (none)) else (none)) else (some x3)
def header_Norm.f (k : Nat) (l0 : List (S28)) : Option ((List (S28))) := header_Norm.l0 k ([] : List (S28)) l0 (l0.length : Int) 0
theorem header_Norm.mono_l : ∀ k, (∀ y0 y1 y2 y3, LeO (header_Norm.l0 k y0 y1 y2 y3) (header_Norm.l0 (k + 1) y0 y1 y2 y3))
 | 0 => fun _ _ _ _ r h => by simp [header_Norm.l0] at h
 | k + 1 => by
  have ih0 := header_Norm.mono_l k
  ·intros
   have hm0 := @octet_Trim.mono; unfold header_Norm.l0
   exact moE

theorem header_Norm.mono : ∀ a0 k, LeO (header_Norm.f k a0) (header_Norm.f (k + 1) a0) := by
 intro a0 k
 have ih0 := header_Norm.mono_l k
 have hm0 := @octet_Trim.mono; unfold header_Norm.f
 exact moE

def header_Norm.T5 : Bool × List (List Nat × List Nat) := (true, [([], []), ([], []), ([1], [1]), ([2], [2]), ([], []), ([4], [4]), ([5, 3], [5]), ([3, 6], [3, 6]), ([7], [7]), ([0, 8, 6], [0, 8]), ([9, 9, 0, 1, 2, 3, 4, 5, 6, 7, 8, 9], [0, 9])])
def header_Norm.B5 : List Nat := [0, 0, 2, 6, 0, 16, 62, 126, 254, 511, 1023]
theorem header_Norm.tab5 : rtab .any (opsOf Tryz.f60 5) = header_Norm.T5 := by kernel_rfl
theorem header_Norm.bits5 : waitsOk header_Norm.T5.2 header_Norm.B5 = true := by kernel_rfl
set_option maxHeartbeats 8000000 in
set_option maxRecDepth 100000 in
theorem header_Norm.calls (k : Nat) (A0 : Option Addr) (c0 : Nat) (l0 : List (S28)) (r : List (S28)) (w : World) (hr0 : Kd.C k28 w A0 l0.length l0) (hc0 : l0.length ≤ c0) (h : header_Norm.f k l0 = some r) :
  Calls Tryz.prog 60 #[.slice A0 l0.length c0] w fun e w' => ∃ v0_ : Value, e = .returned (v0_) ∧ Kd.R k28 28 w' w.heap.size (fun _ => True) v0_ r ∧ Below w.heap.size w w' := by
 have hu28 := Tryz.underlying28
 have HR1 := Aside0.mk hr0
 have HC1 := Aside0.mk hc0
 clear hr0 hc0
 have HB := Aside0.mk (Below.refl w.heap.size w)
 have H : (header_Norm.l0 k ([] : List (S28)) l0 (l0.length : Int) 0) = some r := h
 clear h
 have H' := Aside0.mk H
 clear H
 go_enter Tryz.func60, Tryz.ntmps60
 go_wp2
 go_loopg [3, 8] k (fun kq v3s1 v3s2 w' => ∃ (x3_1 : List (S28)) (x8_1 : Int), v3s2 = .int .i64 x8_1 ∧ Aside0 (header_Norm.l0 kq x3_1 l0 (l0.length : Int) x8_1 = some r) ∧ Aside0 (kq ≤ k) ∧ Aside0 (Kd.R k28 28 w' w.heap.size (fun _ => True) v3s1 x3_1) ∧ Aside0 (Below w.heap.size w w'))
 case atStart => exact ⟨(([] : List (S28))), (0), rS, H', ⟨Nat.le_refl _⟩, ⟨by first | exact Kd.R_nil _ _ _ _ _ | exact Kd.N_nil _ _ _ _ _ | exact Kd.V_nil _ _ _ _ _ | exact Kd.Q_nil _ _ _ _ _ | exact Kd.S_nil _ _ _ _ _⟩, ⟨bE⟩⟩
 case round =>
  clear H'
  obtain ⟨x3_1, x8_1, rfl, HA, HK1, HO_3, HB⟩ := hrel
  cases gk with
  | zero => exact absurd HA.out (by simp [header_Norm.l0])
  | succ k1 =>
   have H := HA.out
   clear HA
   simp only [header_Norm.l0] at H
   refine em_ (x8_1 < (l0.length : Int)) (fun c2 => ?g1p) (fun c2 => ?g1n)
   case' g1p =>
    rw [if_pos c2] at H
    have c2b0 : decide (x8_1 < (l0.length : Int)) = true := decide_eq_true c2
    clear c2
    replace H := iteN_ H; obtain ⟨c3, H⟩ := H
    have c3b0 : decide (0 ≤ x8_1) = true := decide_eq_true c3
    clear c3
    replace H := iteN_ H; obtain ⟨c4, H⟩ := H
    have c4b0 : decide (x8_1 < (l0.length : Int)) = true := decide_eq_true c4
    clear c4
    replace H := bd_ H; obtain ⟨t1, A5, H⟩ := H
    replace H := bd_ H; obtain ⟨t2, A6, H⟩ := H
    replace H := iteN_ H; obtain ⟨c7, H⟩ := H
    have LMc7 := Aside0.mk c7
    clear c7
    obtain ⟨y8, hy8⟩ : ∃ y_ : List (S28), y_ = (x3_1 ++ [(⟨t1, t2⟩ : S28)]) := ⟨_, rfl⟩
    replace H : (header_Norm.l0 k1 y8 l0 (l0.length : Int) (wrap64 (x8_1 + 1))) = some r := by first | (rw [hy8]; with_reducible exact H) | (have H2_ := (Option.bind_some _ _).symm.trans H; rw [hy8]; with_reducible exact H2_) | (have H2_ := (Option.bind_some _ _).symm.trans H; with_reducible exact H2_) | with_reducible exact H | (rw [hy8]; exact H) | exact H
    have Ny8 := Aside0.mk hy8
    clear hy8
    have H' := Aside0.mk H
    clear H
    have p9 : 0 ≤ (x8_1 : Int) := of_decide_eq_true mE
    have q9 : x8_1 < (l0.length : Int) := of_decide_eq_true mE
    obtain ⟨ad9, e3, hx9_0, hx9_1⟩ := at_T28 HR1.out x8_1 p9 q9
    cases e3
    replace hx9_0 := (HB.out.cell (World.block_lt_of_cell? w _ hx9_0)).trans hx9_0
    replace hx9_1 := (HB.out.cell (World.block_lt_of_cell? w _ hx9_1)).trans hx9_1
    replace p9 := eq_true p9
    replace q9 := eq_true q9
    have M2_0 := trivial
   case' g1n =>
    rw [if_neg c2] at H
    have c2b0 : decide (x8_1 < (l0.length : Int)) = false := decide_eq_false c2
    clear c2
    obtain rfl := si_ H
    have M2_1 := trivial
   all_goals
    try go_wp2_with (first | ((with_reducible refine gate_dst (N := 5) rfl ?_); refine bxE (N := 5) (cs := #[.string (⟨#[]⟩ : ByteArray), .string (⟨#[]⟩ : ByteArray)]) (t := 28) fun gb1a1 hg w1a2 hbox hb => ?_; have n0_ := Aside0.mk (Kd.R_below (Kd.R_elderB (rK HO_3.out) gb1a1 (Nat.le_of_eq hg.symm)) hb); have n1_ := bS bE hb; have n2_ := Aside0.mk (hbox); have n3_ := sE (w := w) hg; have n4_ := sE (w := w) hg; clear HO_3; clear HB; have HO_3 := n0_; have HB := n1_; have BK1a1 := n2_; have GW1a1 := n3_; have GE1a1 := n4_; clear n0_ n1_ n2_ n3_ n4_; clear hb hbox hg; obtain ⟨z1a3_0, z1a3_1, zf1a3_0, zf1a3_1⟩ := bk2_ BK1a1))
    first
    | clear M2_0
      have n0_ : Aside0 (Kd.R k28 28 ((w1a2.setCell ⟨gb1a1, 0, none⟩ (.string ((rd_T28 l0 x8_1).f0))).setCell ⟨gb1a1, 1, none⟩ (.string ((rd_T28 l0 x8_1).f1))) w.heap.size (fun k_ => k_ ≠ gb1a1) u3 x3_1) := ⟨by (with_reducible repeat (first | apply Kd.R_alloc | apply Kd.R_drewN | apply Kd.R_drew)); exact Kd.R_mono (Kd.R_far (p := ⟨gb1a1, 1, none⟩) (Kd.R_far (p := ⟨gb1a1, 0, none⟩) (Kd.R_mono HO_3.out (fun k_ hk => (⟨hk, hk.2⟩ : _ ∧ k_ ≠ gb1a1))) (fun _ hk => hk.2) (.string ((rd_T28 l0 x8_1).f0))) (fun _ hk => hk.2) (.string ((rd_T28 l0 x8_1).f1))) (fun _ hk => hk.1.2)⟩
      have n1_ : Aside0 (((w1a2.setCell ⟨gb1a1, 0, none⟩ (.string ((rd_T28 l0 x8_1).f0))).setCell ⟨gb1a1, 1, none⟩ (.string ((rd_T28 l0 x8_1).f1))).heap[gb1a1]? = some (.cells #[.string ((rd_T28 l0 x8_1).f0), .string ((rd_T28 l0 x8_1).f1)] 28 (0, 0))) := ⟨kT⟩
      have n2_ : Aside0 (Below w.heap.size w ((w1a2.setCell ⟨gb1a1, 0, none⟩ (.string ((rd_T28 l0 x8_1).f0))).setCell ⟨gb1a1, 1, none⟩ (.string ((rd_T28 l0 x8_1).f1)))) := ⟨bE⟩
      (try clear HO_3)
      (try clear BK1a1)
      (try clear HB)
      generalize ((w1a2.setCell ⟨gb1a1, 0, none⟩ (.string ((rd_T28 l0 x8_1).f0))).setCell ⟨gb1a1, 1, none⟩ (.string ((rd_T28 l0 x8_1).f1))) = w13s1 at n0_ n1_ n2_ ⊢
      have HO_3 := n0_
      have BK1a1 := n1_
      have HB := n2_
      clear n0_ n1_ n2_
      have n0_ := Aside0.mk (Kd.R_drew HO_3.out)
      have n1_ := Aside0.mk (blk_drew BK1a1.out)
      have n2_ := Aside0.mk (below_drew1 HB.out)
      clear HO_3
      clear BK1a1
      clear HB
      have HO_3 := n0_
      have BK1a1 := n1_
      have HB := n2_
      clear n0_ n1_ n2_
      refine start_ (n := 11) (S := fun w' => w'.cell? ⟨gb1a1, 0, none⟩ = some (.string ((rd_T28 l0 x8_1).f0)) ∧ w'.cell? ⟨gb1a1, 1, none⟩ = some (.string ((rd_T28 l0 x8_1).f1))) (ds := []) (bz 11 0) (by kernel_rfl) rfl rfl (bkc2_ BK1a1) (fun hHeld => ?_); refine with_tabW header_Norm.tab5 header_Norm.bits5 (fun HT_ HW_ => ?_)
      generalize w13s1.drew = w29s1 at HO_3 BK1a1 HB hHeld ⊢
      refine pA (i := 0) (N := some 12) (bz 11 1) (any_of HT_.out (by kernel_rfl)) ?_
      refine pA (i := 1) (N := some 13) (bz 11 3) (any_of HT_.out (by kernel_rfl)) ?_
      refine pA (i := 4) (N := some 16) (bz 11 19) (any_of HT_.out (by kernel_rfl)) ?_
      refine tA2 (i := 2) (N := some 14) (bz 11 23) (take_ofW HT_.out HW_.out (by kernel_rfl)) hHeld ?_
      refine tA2 (i := 5) (N := some 17) (bz 11 55) (take_ofW HT_.out HW_.out (by kernel_rfl)) hHeld ?_
      refine one_ (i := 3) (N := some 15) (bz 11 63) rfl rfl (one_of HT_.out (by kernel_rfl)) (by decide) (fun K hK => ?_)
      refine gS Tryz.func95 #[.string ((rd_T28 l0 x8_1).f0)] ?_
      with_reducible refine (octet_Lower.calls ((rd_T28 l0 x8_1).f0) t1 _ A5.out).mono ?_
      rintro e w38s1 ⟨rfl, hb⟩
      refine ⟨_, rfl, ?_⟩
      replace HO_3 := rM HO_3 hb; replace BK1a1 := kM BK1a1 hb; replace HB := bS bE hb; (try clear hb)
      refine hK.out _ _ (bkc2_ BK1a1) (fun hHeld => ?_)
      clear hK K
      refine nA 15 ?_
      refine one_ (i := 6) (N := some 18) (bz 11 127) rfl rfl (one_of HT_.out (by kernel_rfl)) (by decide) (fun K hK => ?_)
      refine gS Tryz.func77 #[.string ((rd_T28 l0 x8_1).f1)] ?_
      with_reducible refine (octet_Trim.calls k1 ((rd_T28 l0 x8_1).f1) t2 _ A6.out).mono ?_
      rintro e w' ⟨rfl, ⟨nd, rfl⟩⟩
      refine ⟨_, rfl, ?_⟩
      refine hK.out _ _ (bkc2_ BK1a1) (fun hHeld => ?_)
      clear hK K
      refine nA 18 ?_
      refine pA (i := 7) (N := some 19) (bz 11 255) (any_of HT_.out (by kernel_rfl)) ?_
      refine one_ (i := 8) (N := some 20) (bz 11 511) rfl rfl (one_of HT_.out (by kernel_rfl)) (by decide) (fun K hK => ?_)
      refine value_ (w1 := ?_) (v := ?_) (by rfl) rfl ?_ ?_
      rotate_left 2
      ·go_simp
       constructor
       ·rfl
       ·rfl
      refine hK.out _ _ ⟨(blk_cell (blk_alloc BK1a1.out _) 0).trans rfl, (blk_cell (blk_alloc BK1a1.out _) 1).trans rfl⟩ (fun hHeld => ?_)
      clear hK K
      refine nA 20 ?_
      refine one_ (i := 9) (N := some 21) (bz 11 1023) rfl rfl (one_of HT_.out (by kernel_rfl)) (by decide) (fun K hK => ?_)
      refine Kd.R_append_step k28 (w0 := w) w.heap.size (by rfl) (.tmp 12) (.tmp 20) 23 28 (.agg #[(.string ⟨#[]⟩), (.string ⟨#[]⟩)]) 32 rfl Tryz.underlying23 info28 rfl (by decide) (by omega) u3 x3_1 (⟨t1, t2⟩ : S28) [.string t1, .string t2] (fun k_ => k_ ≠ gb1a1) (fun _ => False) rfl rfl ?aP (fun _ hk => hk.elim) ?aF ?aO ?aB ?aS ?aL ?_
      (case aP => exact k28_mkM _ _ _ (⟨t1, t2⟩ : S28))
      (case aB => exact bE)
      (case aF => exact (fun k_ hk => Kd.freshB (g := gb1a1) (o := .cells #[.string ((rd_T28 l0 x8_1).f0), .string ((rd_T28 l0 x8_1).f1)] 28 (0, 0)) (kC BK1a1) k_ hk))
      (case aO => exact (rK HO_3.out))
      (case aS => exact (below_size bE))
      (case aL => have := LMc7.out; omega)
      intro v71s1 w71s2 ho hb hg hat
      rw [← Ny8.out] at ho
      have n0_ := Aside0.mk (blk_grown (g := gb1a1) (o := .cells #[.string ((rd_T28 l0 x8_1).f0), .string ((rd_T28 l0 x8_1).f1)] 28 (0, 0)) (kC BK1a1) hg (Kd.R_away HO_3.out (fun _ hk => hk)))
      have n1_ := Aside0.mk (hb)
      have n2_ := Aside0.mk (ho)
      clear BK1a1
      clear HB
      clear HO_3
      have BK1a1 := n0_
      have HB := n1_
      have HO81s1 := n2_
      clear n0_ n1_ n2_
      clear ho hb hg hat
      refine hK.out _ _ (bkc2_ BK1a1) (fun hHeld => ?_)
      clear hK K
      refine nA 21 ?_
      refine pA (i := 10) (N := some 3) (bz 11 2047) (any_of HT_.out (by kernel_rfl)) ?_
      refine done_ (done_of HT_.out (by kernel_rfl)) ?_
      try go_wp2
      go_roundg k1
      case measure => have := HK1.out; omega
      case rel => exact ⟨(y8), (wrap64 (x8_1 + 1)), rS, H', ⟨by have := HK1.out; omega⟩, ⟨by (with_reducible repeat (first | apply Kd.R_alloc | apply Kd.R_drewN | apply Kd.R_drew)); exact Kd.R_mono HO81s1.out (fun _ hk => trivial)⟩, ⟨bE⟩⟩
    | clear M2_1
      go_ret
      exact ⟨_, rE, by (with_reducible repeat (first | apply Kd.R_alloc | apply Kd.R_drewN | apply Kd.R_drew)); exact HO_3.out, bE⟩

/-! ### ask_Norm: function 20 -/
def ask_Norm.f (k : Nat) (a0_0 : ByteArray) (a0_1 : ByteArray) (a0_2 : ByteArray) (a0_3 : Int) (a0_4 : Bool) (l0_5 : List (S28)) (a0_6 : Int) (a0_7 : Int) (a0_8 : Int) (a0_9 : Int) : Option (ByteArray × ByteArray × ByteArray × Int × Bool × (List (S28)) × Int × Int × Int × Int) := (ask_parts.f k a0_0 a0_1 a0_2 a0_3 a0_4 l0_5 a0_6 a0_7 a0_8 a0_9).bind fun bt373 => (if bt373.2.2.2.2.2.2.2.2 = true then ((method_Norm.f k a0_0).bind fun t384 => ((target_Show.f k bt373.1 bt373.2.1 bt373.2.2.1 bt373.2.2.2.1 bt373.2.2.2.2.1).bind fun t385 => ((origin_Show.f k bt373.2.2.2.2.2.1 bt373.2.2.2.2.2.2.1 bt373.2.2.2.2.2.2.2.1).bind fun t386 => ((header_Norm.f k l0_5).bind fun t387 => (some (t384, t385, t386, a0_3, a0_4, t387, a0_6, a0_7, a0_8, a0_9)))))) else (some ((⟨#[]⟩ : ByteArray), (⟨#[]⟩ : ByteArray), (⟨#[]⟩ : ByteArray), 0, false, ([] : List (S28)), 0, 0, 0, 0)))
theorem ask_Norm.mono : ∀ a0 a1 a2 a3 a4 a5 a6 a7 a8 a9 k, LeO (ask_Norm.f k a0 a1 a2 a3 a4 a5 a6 a7 a8 a9) (ask_Norm.f (k + 1) a0 a1 a2 a3 a4 a5 a6 a7 a8 a9) := by
 intro a0 a1 a2 a3 a4 a5 a6 a7 a8 a9 k
 have hm0 := @ask_parts.mono; have hm1 := @header_Norm.mono; have hm2 := @method_Norm.mono; have hm3 := @origin_Show.mono; have hm4 := @target_Show.mono; unfold ask_Norm.f
 exact moE

def ask_Norm.T4 : Bool × List (List Nat × List Nat) := (true, [([], []), ([0], [0]), ([1], [1]), ([], []), ([3, 2], [3]), ([], []), ([5, 4], [5]), ([], []), ([7], [7]), ([8, 6], [8]), ([0, 1, 2, 7, 8], []), ([10, 2, 9, 0, 1, 2, 7, 8], [2, 10]), ([0, 1, 2, 3, 4, 7, 8, 10, 11], []), ([12, 4, 11, 0, 1, 2, 3, 4, 7, 8, 10, 11], [4, 12]), ([0, 1, 2, 3, 4, 5, 6, 7, 8, 10, 11, 12, 13], []), ([14, 6, 13, 0, 1, 2, 3, 4, 5, 6, 7, 8, 10, 11, 12, 13], [6, 14]), ([0, 1, 2, 3, 4, 5, 6, 7, 8, 9, 10, 11, 12, 13, 14, 15], []), ([16, 9, 15, 0, 1, 2, 3, 4, 5, 6, 7, 8, 9, 10, 11, 12, 13, 14, 15], [9, 16])])
def ask_Norm.B4 : List Nat := [0, 1, 3, 0, 15, 0, 63, 0, 128, 511, 391, 2047, 4095, 8191, 16383, 32767, 65535, 131071]
theorem ask_Norm.tab4 : rtab .any (opsOf Tryz.f20 4) = ask_Norm.T4 := by kernel_rfl
theorem ask_Norm.bits4 : waitsOk ask_Norm.T4.2 ask_Norm.B4 = true := by kernel_rfl
set_option maxHeartbeats 8000000 in
set_option maxRecDepth 100000 in
theorem ask_Norm.calls (k : Nat) (a0_0 : ByteArray) (a0_1 : ByteArray) (a0_2 : ByteArray) (a0_3 : Int) (a0_4 : Bool) (A0_5 : Option Addr) (c0_5 : Nat) (l0_5 : List (S28)) (a0_6 : Int) (a0_7 : Int) (a0_8 : Int) (a0_9 : Int) (r1 : ByteArray) (r2 : ByteArray) (r3 : ByteArray) (r4 : Int) (r5 : Bool) (r6 : List (S28)) (r7 : Int) (r8 : Int) (r9 : Int) (r10 : Int) (w : World) (hr0_5 : Kd.C k28 w A0_5 l0_5.length l0_5) (hc0_5 : l0_5.length ≤ c0_5) (hM_ : Aside0 (LaidW w)) (h : ask_Norm.f k a0_0 a0_1 a0_2 a0_3 a0_4 l0_5 a0_6 a0_7 a0_8 a0_9 = some (r1, r2, r3, r4, r5, r6, r7, r8, r9, r10)) :
  Calls Tryz.prog 20 #[.agg #[.string a0_0, .string a0_1, .string a0_2, .int .i64 a0_3, .bool a0_4, .slice A0_5 l0_5.length c0_5, .int .i64 a0_6, .int .u64 a0_7, .int .i64 a0_8, .int .i64 a0_9]] w fun e w' => ∃ v5_ : Value, e = .returned (.agg #[.string r1, .string r2, .string r3, .int .i64 r4, .bool r5, v5_, .int .i64 r7, .int .u64 r8, .int .i64 r9, .int .i64 r10]) ∧ Kd.R k28 28 w' w.heap.size (fun _ => True) v5_ r6 ∧ Below w.heap.size w w' := by
 have hu26 := Tryz.underlying26
 have hu72 := Tryz.underlying72
 have hu70 := Tryz.underlying70
 have HR1_5 := Aside0.mk hr0_5
 have HC1_5 := Aside0.mk hc0_5
 clear hr0_5 hc0_5
 have HB := Aside0.mk (Below.refl w.heap.size w)
 have H : ((ask_parts.f k a0_0 a0_1 a0_2 a0_3 a0_4 l0_5 a0_6 a0_7 a0_8 a0_9).bind fun bt1 => (if bt1.2.2.2.2.2.2.2.2 = true then ((method_Norm.f k a0_0).bind fun t2 => ((target_Show.f k bt1.1 bt1.2.1 bt1.2.2.1 bt1.2.2.2.1 bt1.2.2.2.2.1).bind fun t3 => ((origin_Show.f k bt1.2.2.2.2.2.1 bt1.2.2.2.2.2.2.1 bt1.2.2.2.2.2.2.2.1).bind fun t4 => ((header_Norm.f k l0_5).bind fun t6 => (some (t2, t3, t4, a0_3, a0_4, t6, a0_6, a0_7, a0_8, a0_9)))))) else (some ((⟨#[]⟩ : ByteArray), (⟨#[]⟩ : ByteArray), (⟨#[]⟩ : ByteArray), 0, false, ([] : List (S28)), 0, 0, 0, 0)))) = some (r1, r2, r3, r4, r5, r6, r7, r8, r9, r10) := h
 clear h
 replace H := bd_ H; obtain ⟨⟨t1, t7, t8, t9, t10, t11, t12, t13, t14⟩, A2, H⟩ := H
 replace H : (if t14 = true then ((method_Norm.f k a0_0).bind fun t2 => ((target_Show.f k t1 t7 t8 t9 t10).bind fun t3 => ((origin_Show.f k t11 t12 t13).bind fun t4 => ((header_Norm.f k l0_5).bind fun t6 => (some (t2, t3, t4, a0_3, a0_4, t6, a0_6, a0_7, a0_8, a0_9)))))) else (some ((⟨#[]⟩ : ByteArray), (⟨#[]⟩ : ByteArray), (⟨#[]⟩ : ByteArray), 0, false, ([] : List (S28)), 0, 0, 0, 0))) = some (r1, r2, r3, r4, r5, r6, r7, r8, r9, r10) := H
 refine em_ (t14 = true) (fun c3 => ?g1p) (fun c3 => ?g1n)
 case' g1p =>
  subst c3
  replace H := ifT_ H
  replace H := bd_ H; obtain ⟨t2, A4, H⟩ := H
  replace H := bd_ H; obtain ⟨t3, A6, H⟩ := H
  replace H := bd_ H; obtain ⟨t4, A7, H⟩ := H
  replace H := bd_ H; obtain ⟨t6, A8, H⟩ := H
  simp only [Option.some.injEq, Prod.mk.injEq] at H
  obtain ⟨rfl, rfl, rfl, rfl, rfl, rfl, rfl, rfl, rfl, rfl⟩ := H
  have M2_0 := trivial
 case' g1n =>
  replace c3 := Bool.eq_false_iff.mpr c3
  subst c3
  replace H := ifF_ H
  simp only [Option.some.injEq, Prod.mk.injEq] at H
  obtain ⟨rfl, rfl, rfl, rfl, rfl, rfl, rfl, rfl, rfl, rfl⟩ := H
  have M2_1 := trivial
 all_goals
  go_enter Tryz.func20, Tryz.ntmps20
  try go_wp2_with (first | ((with_reducible refine gate_dst (N := 1) rfl ?_); refine bxE (N := 1) (cs := #[.string a0_0, .string a0_1, .string a0_2, .int .i64 a0_3, .bool a0_4, .slice A0_5 l0_5.length c0_5, .int .i64 a0_6, .int .u64 a0_7, .int .i64 a0_8, .int .i64 a0_9]) (t := 26) fun gb1a1 hg w1a2 hbox hb => ?_; obtain ⟨HB', BK1a1, GW1a1⟩ := bx_ bE hg hbox hb; have GE1a1 := GW1a1; clear HB hb hbox hg; have HB := HB'; clear HB') | ((with_reducible refine gate_dst (N := 2) rfl ?_); refine bxE (N := 2) (cs := #[.string (⟨#[]⟩ : ByteArray), .string (⟨#[]⟩ : ByteArray), .string (⟨#[]⟩ : ByteArray), .int .i64 0, .bool false, .slice none 0 0, .int .i64 0, .int .u64 0, .int .i64 0, .int .i64 0]) (t := 26) fun gb2a1 hg w2a2 hbox hb => ?_; have BK2a1 := Aside0.mk (hbox); have GW2a1 := sE (w := w) hg; have GE2a1 := sE (w := w) hg; have NB1a1_2a1 := neL BK1a1 hg; have NB2a1_1a1 := neG BK1a1 hg; replace BK1a1 := kM BK1a1 hb; replace HB := bS bE hb; clear hb hbox hg; have hnb2a3 := NB1a1_2a1.out; have hnc2a3 := NB2a1_1a1.out; obtain ⟨z2a4_0, z2a4_1, z2a4_2, z2a4_3, z2a4_4, z2a4_5, z2a4_6, z2a4_7, z2a4_8, z2a4_9, zf2a4_0, zf2a4_1, zf2a4_2, zf2a4_3, zf2a4_4, zf2a4_5, zf2a4_6, zf2a4_7, zf2a4_8, zf2a4_9⟩ := bk10_ BK1a1) | ((with_reducible refine gate_callee (f := 49) rfl ?_); refine gL (some 8) Tryz.func49 #[.agg #[.string a0_0, .string a0_1, .string a0_2, .int .i64 a0_3, .bool a0_4, .slice A0_5 l0_5.length c0_5, .int .i64 a0_6, .int .u64 a0_7, .int .i64 a0_8, .int .i64 a0_9]] ?_; (with_reducible refine (ask_parts.calls k a0_0 a0_1 a0_2 a0_3 a0_4 _ _ l0_5 a0_6 a0_7 a0_8 a0_9 t1 t7 t8 t9 t10 t11 t12 t13 true _ ?side1 ?side2 ?side3 A2.out).mono ?_); (case side1 => repeat (first | exact (Kd.C_below HR1_5.out HB.out) | (with_reducible refine Kd.C_alloc ?_ _) | (with_reducible refine Kd.C_drewN ?_ _) | (with_reducible refine Kd.C_drew ?_))); (case side2 => exact HC1_5.out); (case side3 => exact ⟨lE⟩); rintro e w3a1 ⟨rfl, hb⟩; refine ⟨_, rfl, ?_⟩; replace BK1a1 := kM BK1a1 hb; replace BK2a1 := kM BK2a1 hb; replace HB := bS bE hb; (try clear hb)) | ((with_reducible refine gate_dst (N := 3) rfl ?_); refine bxE (N := 3) (cs := #[.string (⟨#[]⟩ : ByteArray), .string (⟨#[]⟩ : ByteArray), .int .i64 0, .string (⟨#[]⟩ : ByteArray), .string (⟨#[]⟩ : ByteArray)]) (t := 72) fun gb4a1 hg w4a2 hbox hb => ?_; have BK4a1 := Aside0.mk (hbox); have GW4a1 := sE (w := w) hg; have GE4a1 := sE (w := w) hg; have NB1a1_4a1 := neL BK1a1 hg; have NB4a1_1a1 := neG BK1a1 hg; have NB2a1_4a1 := neL BK2a1 hg; have NB4a1_2a1 := neG BK2a1 hg; replace BK1a1 := kM BK1a1 hb; replace BK2a1 := kM BK2a1 hb; replace HB := bS bE hb; clear hb hbox hg) | ((with_reducible refine gate_dst (N := 4) rfl ?_); refine bxE (N := 4) (cs := #[.string (⟨#[]⟩ : ByteArray), .string (⟨#[]⟩ : ByteArray), .int .i64 0]) (t := 70) fun gb5a1 hg w5a2 hbox hb => ?_; have BK5a1 := Aside0.mk (hbox); have GW5a1 := sE (w := w) hg; have GE5a1 := sE (w := w) hg; have NB1a1_5a1 := neL BK1a1 hg; have NB5a1_1a1 := neG BK1a1 hg; have NB2a1_5a1 := neL BK2a1 hg; have NB5a1_2a1 := neG BK2a1 hg; have NB4a1_5a1 := neL BK4a1 hg; have NB5a1_4a1 := neG BK4a1 hg; replace BK1a1 := kM BK1a1 hb; replace BK2a1 := kM BK2a1 hb; replace BK4a1 := kM BK4a1 hb; replace HB := bS bE hb; clear hb hbox hg; have hnb5a3 := NB4a1_1a1.out; have hnc5a3 := NB1a1_4a1.out; have hnb5a4 := NB4a1_2a1.out; have hnc5a4 := NB2a1_4a1.out; have hnb5a5 := NB4a1_5a1.out; have hnc5a5 := NB5a1_4a1.out; obtain ⟨z5a6_0, z5a6_1, z5a6_2, z5a6_3, z5a6_4, zf5a6_0, zf5a6_1, zf5a6_2, zf5a6_3, zf5a6_4⟩ := bk5_ BK4a1; have hnb5a7 := NB5a1_1a1.out; have hnc5a7 := NB1a1_5a1.out; have hnb5a8 := NB5a1_2a1.out; have hnc5a8 := NB2a1_5a1.out; obtain ⟨z5a9_0, z5a9_1, z5a9_2, zf5a9_0, zf5a9_1, zf5a9_2⟩ := bk3_ BK5a1; obtain ⟨z5a10_0, z5a10_1, z5a10_2, z5a10_3, z5a10_4, z5a10_5, z5a10_6, z5a10_7, z5a10_8, z5a10_9, zf5a10_0, zf5a10_1, zf5a10_2, zf5a10_3, zf5a10_4, zf5a10_5, zf5a10_6, zf5a10_7, zf5a10_8, zf5a10_9⟩ := bk10_ BK2a1) | ((with_reducible refine gate_callee (f := 49) rfl ?_); refine gL (some 8) Tryz.func49 #[.agg #[.string a0_0, .string a0_1, .string a0_2, .int .i64 a0_3, .bool a0_4, .slice A0_5 l0_5.length c0_5, .int .i64 a0_6, .int .u64 a0_7, .int .i64 a0_8, .int .i64 a0_9]] ?_; (with_reducible refine (ask_parts.calls k a0_0 a0_1 a0_2 a0_3 a0_4 _ _ l0_5 a0_6 a0_7 a0_8 a0_9 t1 t7 t8 t9 t10 t11 t12 t13 false _ ?side1 ?side2 ?side3 A2.out).mono ?_); (case side1 => repeat (first | exact (Kd.C_below HR1_5.out HB.out) | (with_reducible refine Kd.C_alloc ?_ _) | (with_reducible refine Kd.C_drewN ?_ _) | (with_reducible refine Kd.C_drew ?_))); (case side2 => exact HC1_5.out); (case side3 => exact ⟨lE⟩); rintro e w6a1 ⟨rfl, hb⟩; refine ⟨_, rfl, ?_⟩; replace BK1a1 := kM BK1a1 hb; replace BK2a1 := kM BK2a1 hb; replace HB := bS bE hb; (try clear hb)))
  first
  | clear M2_0
    have n0_ : Aside0 (((((((((w5a2.setCell ⟨gb4a1, 0, none⟩ (.string t1)).setCell ⟨gb4a1, 1, none⟩ (.string t7)).setCell ⟨gb4a1, 2, none⟩ (.int .i64 t8)).setCell ⟨gb4a1, 3, none⟩ (.string t9)).setCell ⟨gb4a1, 4, none⟩ (.string t10)).setCell ⟨gb5a1, 0, none⟩ (.string t11)).setCell ⟨gb5a1, 1, none⟩ (.string t12)).setCell ⟨gb5a1, 2, none⟩ (.int .i64 t13)).heap[gb1a1]? = some (.cells #[.string a0_0, .string a0_1, .string a0_2, .int .i64 a0_3, .bool a0_4, .slice A0_5 l0_5.length c0_5, .int .i64 a0_6, .int .u64 a0_7, .int .i64 a0_8, .int .i64 a0_9] 26 (0, 0))) := ⟨kT⟩
    have n1_ : Aside0 (((((((((w5a2.setCell ⟨gb4a1, 0, none⟩ (.string t1)).setCell ⟨gb4a1, 1, none⟩ (.string t7)).setCell ⟨gb4a1, 2, none⟩ (.int .i64 t8)).setCell ⟨gb4a1, 3, none⟩ (.string t9)).setCell ⟨gb4a1, 4, none⟩ (.string t10)).setCell ⟨gb5a1, 0, none⟩ (.string t11)).setCell ⟨gb5a1, 1, none⟩ (.string t12)).setCell ⟨gb5a1, 2, none⟩ (.int .i64 t13)).heap[gb2a1]? = some (.cells #[.string (⟨#[]⟩ : ByteArray), .string (⟨#[]⟩ : ByteArray), .string (⟨#[]⟩ : ByteArray), .int .i64 0, .bool false, .slice none 0 0, .int .i64 0, .int .u64 0, .int .i64 0, .int .i64 0] 26 (0, 0))) := ⟨kT⟩
    have n2_ : Aside0 (((((((((w5a2.setCell ⟨gb4a1, 0, none⟩ (.string t1)).setCell ⟨gb4a1, 1, none⟩ (.string t7)).setCell ⟨gb4a1, 2, none⟩ (.int .i64 t8)).setCell ⟨gb4a1, 3, none⟩ (.string t9)).setCell ⟨gb4a1, 4, none⟩ (.string t10)).setCell ⟨gb5a1, 0, none⟩ (.string t11)).setCell ⟨gb5a1, 1, none⟩ (.string t12)).setCell ⟨gb5a1, 2, none⟩ (.int .i64 t13)).heap[gb4a1]? = some (.cells #[.string t1, .string t7, .int .i64 t8, .string t9, .string t10] 72 (0, 0))) := ⟨kT⟩
    have n3_ : Aside0 (((((((((w5a2.setCell ⟨gb4a1, 0, none⟩ (.string t1)).setCell ⟨gb4a1, 1, none⟩ (.string t7)).setCell ⟨gb4a1, 2, none⟩ (.int .i64 t8)).setCell ⟨gb4a1, 3, none⟩ (.string t9)).setCell ⟨gb4a1, 4, none⟩ (.string t10)).setCell ⟨gb5a1, 0, none⟩ (.string t11)).setCell ⟨gb5a1, 1, none⟩ (.string t12)).setCell ⟨gb5a1, 2, none⟩ (.int .i64 t13)).heap[gb5a1]? = some (.cells #[.string t11, .string t12, .int .i64 t13] 70 (0, 0))) := ⟨kT⟩
    have n4_ : Aside0 (Below w.heap.size w ((((((((w5a2.setCell ⟨gb4a1, 0, none⟩ (.string t1)).setCell ⟨gb4a1, 1, none⟩ (.string t7)).setCell ⟨gb4a1, 2, none⟩ (.int .i64 t8)).setCell ⟨gb4a1, 3, none⟩ (.string t9)).setCell ⟨gb4a1, 4, none⟩ (.string t10)).setCell ⟨gb5a1, 0, none⟩ (.string t11)).setCell ⟨gb5a1, 1, none⟩ (.string t12)).setCell ⟨gb5a1, 2, none⟩ (.int .i64 t13))) := ⟨bE⟩
    (try clear BK1a1)
    (try clear BK2a1)
    (try clear BK4a1)
    (try clear BK5a1)
    (try clear HB)
    generalize ((((((((w5a2.setCell ⟨gb4a1, 0, none⟩ (.string t1)).setCell ⟨gb4a1, 1, none⟩ (.string t7)).setCell ⟨gb4a1, 2, none⟩ (.int .i64 t8)).setCell ⟨gb4a1, 3, none⟩ (.string t9)).setCell ⟨gb4a1, 4, none⟩ (.string t10)).setCell ⟨gb5a1, 0, none⟩ (.string t11)).setCell ⟨gb5a1, 1, none⟩ (.string t12)).setCell ⟨gb5a1, 2, none⟩ (.int .i64 t13)) = w13s1 at n0_ n1_ n2_ n3_ n4_ ⊢
    have BK1a1 := n0_
    have BK2a1 := n1_
    have BK4a1 := n2_
    have BK5a1 := n3_
    have HB := n4_
    clear n0_ n1_ n2_ n3_ n4_
    have n0_ := Aside0.mk (blk_drew BK1a1.out)
    have n1_ := Aside0.mk (blk_drew BK2a1.out)
    have n2_ := Aside0.mk (blk_drew BK4a1.out)
    have n3_ := Aside0.mk (blk_drew BK5a1.out)
    have n4_ := Aside0.mk (below_drew1 HB.out)
    clear BK1a1
    clear BK2a1
    clear BK4a1
    clear BK5a1
    clear HB
    have BK1a1 := n0_
    have BK2a1 := n1_
    have BK4a1 := n2_
    have BK5a1 := n3_
    have HB := n4_
    clear n0_ n1_ n2_ n3_ n4_
    refine start_ (n := 18) (S := fun w' => w'.cell? ⟨gb1a1, 0, none⟩ = some (.string a0_0) ∧ w'.cell? ⟨gb1a1, 1, none⟩ = some (.string a0_1) ∧ w'.cell? ⟨gb1a1, 2, none⟩ = some (.string a0_2) ∧ w'.cell? ⟨gb1a1, 3, none⟩ = some (.int .i64 a0_3) ∧ w'.cell? ⟨gb1a1, 4, none⟩ = some (.bool a0_4) ∧ w'.cell? ⟨gb1a1, 5, none⟩ = some (.slice A0_5 l0_5.length c0_5) ∧ w'.cell? ⟨gb1a1, 6, none⟩ = some (.int .i64 a0_6) ∧ w'.cell? ⟨gb1a1, 7, none⟩ = some (.int .u64 a0_7) ∧ w'.cell? ⟨gb1a1, 8, none⟩ = some (.int .i64 a0_8) ∧ w'.cell? ⟨gb1a1, 9, none⟩ = some (.int .i64 a0_9) ∧ w'.cell? ⟨gb4a1, 0, none⟩ = some (.string t1) ∧ w'.cell? ⟨gb4a1, 1, none⟩ = some (.string t7) ∧ w'.cell? ⟨gb4a1, 2, none⟩ = some (.int .i64 t8) ∧ w'.cell? ⟨gb4a1, 3, none⟩ = some (.string t9) ∧ w'.cell? ⟨gb4a1, 4, none⟩ = some (.string t10) ∧ w'.cell? ⟨gb5a1, 0, none⟩ = some (.string t11) ∧ w'.cell? ⟨gb5a1, 1, none⟩ = some (.string t12) ∧ w'.cell? ⟨gb5a1, 2, none⟩ = some (.int .i64 t13)) (ds := [11, 13, 15, 17]) (bz 18 0) (by kernel_rfl) rfl rfl (bkd10_ BK1a1 (bkd5_ BK4a1 (bkc3_ BK5a1))) (fun hHeld => ?_); refine with_tabW ask_Norm.tab4 ask_Norm.bits4 (fun HT_ HW_ => ?_)
    generalize w13s1.drew = w37s1 at BK1a1 BK2a1 BK4a1 BK5a1 HB hHeld ⊢
    refine pA (i := 0) (N := some 15) (bz 18 1) (any_of HT_.out (by kernel_rfl)) ?_
    refine pA (i := 7) (N := some 22) (bz 18 129) (any_of HT_.out (by kernel_rfl)) ?_
    refine tA18 (i := 1) (N := some 16) (bz 18 131) (take_ofW HT_.out HW_.out (by kernel_rfl)) hHeld ?_
    refine tA18 (i := 3) (N := some 18) (bz 18 139) (take_ofW HT_.out HW_.out (by kernel_rfl)) hHeld ?_
    refine tA18 (i := 5) (N := some 20) (bz 18 171) (take_ofW HT_.out HW_.out (by kernel_rfl)) hHeld ?_
    refine tA18 (i := 8) (N := some 23) (bz 18 427) (take_ofW HT_.out HW_.out (by kernel_rfl)) hHeld ?_
    refine one_ (i := 2) (N := some 17) (bz 18 431) rfl rfl (one_of HT_.out (by kernel_rfl)) (by decide) (fun K hK => ?_)
    refine gS Tryz.func57 #[.string a0_0] ?_
    with_reducible refine (method_Norm.calls k a0_0 t2 _ A4.out).mono ?_
    rintro e w47s1 ⟨rfl, hb⟩
    refine ⟨_, rfl, ?_⟩
    replace BK1a1 := kM BK1a1 hb; replace BK2a1 := kM BK2a1 hb; replace BK4a1 := kM BK4a1 hb; replace BK5a1 := kM BK5a1 hb; replace HB := bS bE hb; (try clear hb)
    refine hK.out _ _ (bkd10_ BK1a1 (bkd5_ BK4a1 (bkc3_ BK5a1))) (fun hHeld => ?_)
    clear hK K
    refine nA 17 ?_
    refine pA (i := 10) (N := some 25) (bz 18 1455) (any_of HT_.out (by kernel_rfl)) ?_
    refine one_ (i := 4) (N := some 19) (bz 18 1471) rfl rfl (one_of HT_.out (by kernel_rfl)) (by decide) (fun K hK => ?_)
    refine gS Tryz.func58 #[.agg #[.string t1, .string t7, .int .i64 t8, .string t9, .string t10]] ?_
    with_reducible refine (target_Show.calls k t1 t7 t8 t9 t10 t3 _ ?side1 A6.out).mono ?_
    (case side1 => exact ⟨lE⟩)
    rintro e w58s1 ⟨rfl, hb⟩
    refine ⟨_, rfl, ?_⟩
    replace BK1a1 := kM BK1a1 hb; replace BK2a1 := kM BK2a1 hb; replace BK4a1 := kM BK4a1 hb; replace BK5a1 := kM BK5a1 hb; replace HB := bS bE hb; (try clear hb)
    refine hK.out _ _ (bkd10_ BK1a1 (bkd5_ BK4a1 (bkc3_ BK5a1))) (fun hHeld => ?_)
    clear hK K
    refine nA 19 ?_
    refine one_ (i := 6) (N := some 21) (bz 18 1535) rfl rfl (one_of HT_.out (by kernel_rfl)) (by decide) (fun K hK => ?_)
    refine gS Tryz.func59 #[.agg #[.string t11, .string t12, .int .i64 t13]] ?_
    with_reducible refine (origin_Show.calls k t11 t12 t13 t4 _ ?side1 A7.out).mono ?_
    (case side1 => exact ⟨lE⟩)
    rintro e w68s1 ⟨rfl, hb⟩
    refine ⟨_, rfl, ?_⟩
    replace BK1a1 := kM BK1a1 hb; replace BK2a1 := kM BK2a1 hb; replace BK4a1 := kM BK4a1 hb; replace BK5a1 := kM BK5a1 hb; replace HB := bS bE hb; (try clear hb)
    refine hK.out _ _ (bkd10_ BK1a1 (bkd5_ BK4a1 (bkc3_ BK5a1))) (fun hHeld => ?_)
    clear hK K
    refine nA 21 ?_
    refine one_ (i := 9) (N := some 24) (bz 18 2047) rfl rfl (one_of HT_.out (by kernel_rfl)) (by decide) (fun K hK => ?_)
    refine gS Tryz.func60 #[.slice A0_5 l0_5.length c0_5] ?_
    with_reducible refine (header_Norm.calls k _ _ l0_5 t6 _ ?side1 ?side2 A8.out).mono ?_
    (case side1 => repeat (first | exact (Kd.C_below HR1_5.out HB.out) | (with_reducible refine Kd.C_alloc ?_ _) | (with_reducible refine Kd.C_drewN ?_ _) | (with_reducible refine Kd.C_drew ?_)))
    (case side2 => exact HC1_5.out)
    rintro e w79s1 ⟨v79s2, rfl, ho79s3, hb⟩
    refine ⟨_, rfl, ?_⟩
    have n0_ := Aside0.mk (Kd.R_lower ho79s3 (below_size bE))
    have n1_ := kM BK1a1 hb
    have n2_ := kM BK2a1 hb
    have n3_ := kM BK4a1 hb
    have n4_ := kM BK5a1 hb
    have n5_ := bS bE hb
    clear BK1a1
    clear BK2a1
    clear BK4a1
    clear BK5a1
    clear HB
    have HO92s1 := n0_
    have BK1a1 := n1_
    have BK2a1 := n2_
    have BK4a1 := n3_
    have BK5a1 := n4_
    have HB := n5_
    clear n0_ n1_ n2_ n3_ n4_ n5_
    (try clear hb)
    (try clear hb2)
    (try clear hk)
    (try clear hi)
    (try clear ho79s3)
    obtain ⟨Ao104s1, co104s1, eo104s1⟩ := Kd.R_slice HO92s1.out
    (first | subst eo104s1 | (injection eo104s1 with f1_ f2_ f3_; have f4_ := f1_.symm; have f5_ := f3_.symm; clear f1_ f2_ f3_; subst f4_; subst f5_))
    refine hK.out _ _ (bkd10_ BK1a1 (bkd5_ BK4a1 (bkc3_ BK5a1))) (fun hHeld => ?_)
    clear hK K
    refine nA 24 ?_
    refine last_ (i := 11) (N := none) (bz 18 4095) rfl rfl (one_of HT_.out (by kernel_rfl)) (by decide) (fun K hK => ?_)
    have hs110s1 : w79s1.cell? ⟨gb1a1, 0, none⟩ = some (.string a0_0) := (blk_cell BK1a1.out 0).trans rfl
    have hfs110s1 := blk_frozen BK1a1.out 0
    have hns110s1_1 := NB2a1_1a1.out
    have hns110s1_2 := NB4a1_1a1.out
    have hns110s1_3 := NB5a1_1a1.out
    have hms110s1_1 := NB1a1_2a1.out
    have hms110s1_2 := NB1a1_4a1.out
    have hms110s1_3 := NB1a1_5a1.out
    refine skip_ (w1 := ?_) (by rfl) rfl ?_ ?_
    rotate_left
    ·go_simp
     rfl
    refine hK.out _ _ ?_
    clear hK K
    refine pA (i := 12) (N := some 26) (bz 18 8191) (any_of HT_.out (by kernel_rfl)) ?_
    refine last_ (i := 13) (N := none) (bz 18 16383) rfl rfl (one_of HT_.out (by kernel_rfl)) (by decide) (fun K hK => ?_)
    have hs126s1 : w79s1.cell? ⟨gb1a1, 1, none⟩ = some (.string a0_1) := (blk_cell BK1a1.out 1).trans rfl
    have hfs126s1 := blk_frozen BK1a1.out 1
    have hns126s1_1 := NB2a1_1a1.out
    have hns126s1_2 := NB4a1_1a1.out
    have hns126s1_3 := NB5a1_1a1.out
    have hms126s1_1 := NB1a1_2a1.out
    have hms126s1_2 := NB1a1_4a1.out
    have hms126s1_3 := NB1a1_5a1.out
    refine skip_ (w1 := ?_) (by rfl) rfl ?_ ?_
    rotate_left
    ·go_simp
     rfl
    refine hK.out _ _ ?_
    clear hK K
    refine pA (i := 14) (N := some 27) (bz 18 32767) (any_of HT_.out (by kernel_rfl)) ?_
    refine last_ (i := 15) (N := none) (bz 18 65535) rfl rfl (one_of HT_.out (by kernel_rfl)) (by decide) (fun K hK => ?_)
    have hs142s1 : w79s1.cell? ⟨gb1a1, 2, none⟩ = some (.string a0_2) := (blk_cell BK1a1.out 2).trans rfl
    have hfs142s1 := blk_frozen BK1a1.out 2
    have hns142s1_1 := NB2a1_1a1.out
    have hns142s1_2 := NB4a1_1a1.out
    have hns142s1_3 := NB5a1_1a1.out
    have hms142s1_1 := NB1a1_2a1.out
    have hms142s1_2 := NB1a1_4a1.out
    have hms142s1_3 := NB1a1_5a1.out
    refine skip_ (w1 := ?_) (by rfl) rfl ?_ ?_
    rotate_left
    ·go_simp
     rfl
    refine hK.out _ _ ?_
    clear hK K
    refine pA (i := 16) (N := some 28) (bz 18 131071) (any_of HT_.out (by kernel_rfl)) ?_
    refine last_ (i := 17) (N := none) (bz 18 262143) rfl rfl (one_of HT_.out (by kernel_rfl)) (by decide) (fun K hK => ?_)
    have hs158s1 : w79s1.cell? ⟨gb1a1, 5, none⟩ = some (.slice A0_5 l0_5.length c0_5) := (blk_cell BK1a1.out 5).trans rfl
    have hfs158s1 := blk_frozen BK1a1.out 5
    have hns158s1_1 := NB2a1_1a1.out
    have hns158s1_2 := NB4a1_1a1.out
    have hns158s1_3 := NB5a1_1a1.out
    have hms158s1_1 := NB1a1_2a1.out
    have hms158s1_2 := NB1a1_4a1.out
    have hms158s1_3 := NB1a1_5a1.out
    refine skip_ (w1 := ?_) (by rfl) rfl ?_ ?_
    rotate_left
    ·go_simp
     rfl
    refine hK.out _ _ ?_
    clear hK K
    refine done_ (done_of HT_.out (by kernel_rfl)) ?_
    obtain ⟨z173s1_0, z173s1_1, z173s1_2, z173s1_3, z173s1_4, z173s1_5, z173s1_6, z173s1_7, z173s1_8, z173s1_9, zf173s1_0, zf173s1_1, zf173s1_2, zf173s1_3, zf173s1_4, zf173s1_5, zf173s1_6, zf173s1_7, zf173s1_8, zf173s1_9⟩ := bk10_ BK1a1
    obtain ⟨z174s1_0, z174s1_1, z174s1_2, z174s1_3, z174s1_4, z174s1_5, z174s1_6, z174s1_7, z174s1_8, z174s1_9, zf174s1_0, zf174s1_1, zf174s1_2, zf174s1_3, zf174s1_4, zf174s1_5, zf174s1_6, zf174s1_7, zf174s1_8, zf174s1_9⟩ := bk10_ BK2a1
    try go_wp2
    refine bodyPost_ret (results_cell_row rfl _ _ gb2a1 26 #[.string t2, .string t3, .string t4, .int .i64 a0_3, .bool a0_4, .slice Ao104s1 t6.length co104s1, .int .i64 a0_6, .int .u64 a0_7, .int .i64 a0_8, .int .i64 a0_9] (0, 0) _ rfl (kT) Tryz.underlying26 rfl (by kernel_rfl)) rfl ?_
    exact ⟨_, rE, by (with_reducible repeat (first | apply Kd.R_alloc | apply Kd.R_drewN | apply Kd.R_drew)); exact Kd.R_mono (Kd.R_far (p := ⟨gb2a1, 9, none⟩) (Kd.R_far (p := ⟨gb2a1, 8, none⟩) (Kd.R_far (p := ⟨gb2a1, 7, none⟩) (Kd.R_far (p := ⟨gb2a1, 6, none⟩) (Kd.R_far (p := ⟨gb2a1, 5, none⟩) (Kd.R_far (p := ⟨gb2a1, 4, none⟩) (Kd.R_far (p := ⟨gb2a1, 3, none⟩) (Kd.R_far (p := ⟨gb2a1, 2, none⟩) (Kd.R_far (p := ⟨gb2a1, 1, none⟩) (Kd.R_far (p := ⟨gb2a1, 0, none⟩) (Kd.R_far (p := ⟨gb1a1, 5, none⟩) (Kd.R_far (p := ⟨gb1a1, 2, none⟩) (Kd.R_far (p := ⟨gb1a1, 1, none⟩) (Kd.R_far (p := ⟨gb1a1, 0, none⟩) (Kd.R_types (Kd.R_types HO92s1.out BK1a1.out (by decide)) BK2a1.out (by decide)) (fun _ hk => hk.1.2) (.string t2)) (fun _ hk => hk.1.2) (.string t3)) (fun _ hk => hk.1.2) (.string t4)) (fun _ hk => hk.1.2) (.slice Ao104s1 t6.length co104s1)) (fun _ hk => hk.2) (.string t2)) (fun _ hk => hk.2) (.string t3)) (fun _ hk => hk.2) (.string t4)) (fun _ hk => hk.2) (.int .i64 a0_3)) (fun _ hk => hk.2) (.bool a0_4)) (fun _ hk => hk.2) (.slice Ao104s1 t6.length co104s1)) (fun _ hk => hk.2) (.int .i64 a0_6)) (fun _ hk => hk.2) (.int .u64 a0_7)) (fun _ hk => hk.2) (.int .i64 a0_8)) (fun _ hk => hk.2) (.int .i64 a0_9)) (fun _ hk => trivial), bE⟩
  | clear M2_1
    refine bodyPost_ret (results_cell_row rfl _ _ gb2a1 26 #[.string (⟨#[]⟩ : ByteArray), .string (⟨#[]⟩ : ByteArray), .string (⟨#[]⟩ : ByteArray), .int .i64 0, .bool false, .slice none 0 0, .int .i64 0, .int .u64 0, .int .i64 0, .int .i64 0] (0, 0) _ rfl (kT) Tryz.underlying26 rfl (by kernel_rfl)) rfl ?_
    exact ⟨_, rE, by first | exact Kd.R_nil _ _ _ _ _ | exact Kd.N_nil _ _ _ _ _ | exact Kd.V_nil _ _ _ _ _ | exact Kd.Q_nil _ _ _ _ _ | exact Kd.S_nil _ _ _ _ _, bE⟩

/-! ### lockkeeperlaw0_Texts: function 23 -/
def lockkeeperlaw0_Texts.l0 : Nat → List ByteArray → List ByteArray → Int → Option (Bool)
 | 0, _, _, _ => none
 | k + 1, x0, x1, x5 => if x5 < (x0.length : Int) then (if 0 ≤ x5 then (if x5 < (x1.length : Int) then (if (rdOf ByteArray.empty x0 x5).toList = (rdOf ByteArray.empty x1 x5).toList then (lockkeeperlaw0_Texts.l0 k x0 x1 (wrap64 (x5 + 1))) else (some false)) else (none)) else (none)) else (some true)
def lockkeeperlaw0_Texts.f (k : Nat) (l0 : List ByteArray) (l1 : List ByteArray) : Option (Bool) := if (l0.length : Int) = (l1.length : Int) then (lockkeeperlaw0_Texts.l0 k l0 l1 0) else (some false)
theorem lockkeeperlaw0_Texts.mono_l : ∀ k, (∀ y0 y1 y2, LeO (lockkeeperlaw0_Texts.l0 k y0 y1 y2) (lockkeeperlaw0_Texts.l0 (k + 1) y0 y1 y2))
 | 0 => fun _ _ _ r h => by simp [lockkeeperlaw0_Texts.l0] at h
 | k + 1 => by
  have ih0 := lockkeeperlaw0_Texts.mono_l k
  ·intros
   unfold lockkeeperlaw0_Texts.l0
   exact moE

theorem lockkeeperlaw0_Texts.mono : ∀ a0 a1 k, LeO (lockkeeperlaw0_Texts.f k a0 a1) (lockkeeperlaw0_Texts.f (k + 1) a0 a1) := by
 intro a0 a1 k
 have ih0 := lockkeeperlaw0_Texts.mono_l k
 unfold lockkeeperlaw0_Texts.f
 exact moE

set_option maxHeartbeats 8000000 in
set_option maxRecDepth 100000 in
theorem lockkeeperlaw0_Texts.calls (k : Nat) (A0 : Option Addr) (c0 : Nat) (l0 : List ByteArray) (A1 : Option Addr) (c1 : Nat) (l1 : List ByteArray) (r : Bool) (w : World) (hr0 : Kd.C Kd.string w A0 l0.length l0) (hc0 : l0.length ≤ c0) (hr1 : Kd.C Kd.string w A1 l1.length l1) (hc1 : l1.length ≤ c1) (h : lockkeeperlaw0_Texts.f k l0 l1 = some r) :
  Calls Tryz.prog 23 #[.slice A0 l0.length c0, .slice A1 l1.length c1] w fun e w' => e = .returned (.bool r) ∧ Drawn0 w w' := by
 have HR2 := Aside0.mk hr0
 have HC2 := Aside0.mk hc0
 clear hr0 hc0
 have HR3 := Aside0.mk hr1
 have HC3 := Aside0.mk hc1
 clear hr1 hc1
 have H : (if (l0.length : Int) = (l1.length : Int) then (lockkeeperlaw0_Texts.l0 k l0 l1 0) else (some false)) = some r := h
 clear h
 refine em_ ((l0.length : Int) = (l1.length : Int)) (fun c4 => ?g1p) (fun c4 => ?g1n)
 case' g1p =>
  rw [if_pos c4] at H
  have c4b0 : ((l0.length : Int) == (l1.length : Int)) = true := beq_iff_eq.mpr c4
  have c4b1 : ((l0.length : Int) != (l1.length : Int)) = false := bne_eq_false_iff_eq.mpr c4
  have c4b2 : (l0.length == l1.length) = true := by first | simpa using c4 | (simp at c4 ⊢; omega)
  clear c4
  have H' := Aside0.mk H
  clear H
  have M2_0 := trivial
 case' g1n =>
  rw [if_neg c4] at H
  have c4b0 : ((l0.length : Int) == (l1.length : Int)) = false := beq_eq_false_iff_ne.mpr c4
  have c4b1 : ((l0.length : Int) != (l1.length : Int)) = true := bne_iff_ne.mpr c4
  have c4b2 : (l0.length == l1.length) = false := by first | simpa using c4 | (simp at c4 ⊢; omega)
  obtain rfl := si_ H
  have M2_1 := trivial
 all_goals
  go_enter Tryz.func23, Tryz.ntmps23
  go_wp2
  repeat (go_quiet (fail); try go_wp2)
  first
  | clear M2_0
    go_loopg [5] k (fun kq v4s1 w' => ∃ (x5_1 : Int), v4s1 = .int .i64 x5_1 ∧ Aside0 (lockkeeperlaw0_Texts.l0 kq l0 l1 x5_1 = some r) ∧ Aside0 (kq ≤ k) ∧ Drawn0 w w')
    case atStart => exact ⟨(0), rS, H', ⟨Nat.le_refl _⟩, by repeat (first | exact Drawn0.refl _ | apply Drawn0.step)⟩
    case round =>
     clear H'
     try clear c4
     try clear c4b0
     try clear c4b1
     try clear c4b2
     obtain ⟨x5_1, rfl, HA, HK1, ⟨m1, rfl⟩⟩ := hrel
     cases gk with
     | zero => exact absurd HA.out (by simp [lockkeeperlaw0_Texts.l0])
     | succ k1 =>
      have H := HA.out
      clear HA
      simp only [lockkeeperlaw0_Texts.l0] at H
      refine em_ (x5_1 < (l0.length : Int)) (fun c6 => ?g3p) (fun c6 => ?g3n)
      case' g3p =>
       rw [if_pos c6] at H
       have c6b0 : decide (x5_1 < (l0.length : Int)) = true := decide_eq_true c6
       clear c6
       replace H := iteN_ H; obtain ⟨c7, H⟩ := H
       have c7b0 : decide (0 ≤ x5_1) = true := decide_eq_true c7
       clear c7
       replace H := iteN_ H; obtain ⟨c8, H⟩ := H
       have c8b0 : decide (x5_1 < (l1.length : Int)) = true := decide_eq_true c8
       clear c8
       refine em_ ((rdOf ByteArray.empty l0 x5_1).toList = (rdOf ByteArray.empty l1 x5_1).toList) (fun c9 => ?g4p) (fun c9 => ?g4n)
       case' g4p =>
        rw [if_pos c9] at H
        have c9b0 : ((rdOf ByteArray.empty l0 x5_1).toList == (rdOf ByteArray.empty l1 x5_1).toList) = true := beq_iff_eq.mpr c9
        have c9b1 : ((rdOf ByteArray.empty l0 x5_1).toList != (rdOf ByteArray.empty l1 x5_1).toList) = false := bne_eq_false_iff_eq.mpr c9
        clear c9
        have H' := Aside0.mk H
        clear H
        have p10 : 0 ≤ (x5_1 : Int) := of_decide_eq_true mE
        have q10 : x5_1 < (l0.length : Int) := of_decide_eq_true mE
        obtain ⟨ad10, e2, hx10_0⟩ := Kd.at_string HR2.out x5_1 p10 q10
        cases e2
        replace p10 := eq_true p10
        replace q10 := eq_true q10
        have p11 : 0 ≤ (x5_1 : Int) := of_decide_eq_true mE
        have q11 : x5_1 < (l1.length : Int) := of_decide_eq_true mE
        obtain ⟨ad11, e3, hx11_0⟩ := Kd.at_string HR3.out x5_1 p11 q11
        cases e3
        replace p11 := eq_true p11
        replace q11 := eq_true q11
        have M5_0 := trivial
       case' g4n =>
        rw [if_neg c9] at H
        have c9b0 : ((rdOf ByteArray.empty l0 x5_1).toList == (rdOf ByteArray.empty l1 x5_1).toList) = false := beq_eq_false_iff_ne.mpr c9
        have c9b1 : ((rdOf ByteArray.empty l0 x5_1).toList != (rdOf ByteArray.empty l1 x5_1).toList) = true := bne_iff_ne.mpr c9
        obtain rfl := si_ H
        have p10 : 0 ≤ (x5_1 : Int) := of_decide_eq_true mE
        have q10 : x5_1 < (l0.length : Int) := of_decide_eq_true mE
        obtain ⟨ad10, e2, hx10_0⟩ := Kd.at_string HR2.out x5_1 p10 q10
        cases e2
        replace p10 := eq_true p10
        replace q10 := eq_true q10
        have p11 : 0 ≤ (x5_1 : Int) := of_decide_eq_true mE
        have q11 : x5_1 < (l1.length : Int) := of_decide_eq_true mE
        obtain ⟨ad11, e3, hx11_0⟩ := Kd.at_string HR3.out x5_1 p11 q11
        cases e3
        replace p11 := eq_true p11
        replace q11 := eq_true q11
        have M5_1 := trivial
      case' g3n =>
       rw [if_neg c6] at H
       have c6b0 : decide (x5_1 < (l0.length : Int)) = false := decide_eq_false c6
       clear c6
       obtain rfl := si_ H
       have M5_1 := trivial
      all_goals
       go_wp2
       repeat (go_quiet (fail); try go_wp2)
       first
       | clear M5_0
         go_roundg k1
         case measure => have := HK1.out; omega
         case rel => exact ⟨(wrap64 (x5_1 + 1)), rS, H', ⟨by have := HK1.out; omega⟩, by repeat (first | exact Drawn0.refl _ | apply Drawn0.step)⟩
       | clear M5_1
         go_ret
         exact ⟨by first | rfl | (simp; done) | (simp [*]; done), by repeat (first | exact Drawn0.refl _ | apply Drawn0.step)⟩
  | clear M2_1
    go_ret
    exact ⟨by first | rfl | (simp; done) | (simp [*]; done), by repeat (first | exact Drawn0.refl _ | apply Drawn0.step)⟩

end Go.Proofs.YtfmajangcbgooaaGreatDoor.Pr
