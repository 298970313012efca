-- Made by a program of this session (wip/xp/xp.py), over the print's words.
import Derived.Test.YtfmajangcbgooaaGreatDoorPr0
import Derived.Test.YtfmajangcbgooaaGreatDoorK0
import Derived.Test.YtfmajangcbgooaaGreatDoorPr5
import Derived.Test.YtfmajangcbgooaaGreatDoorPr6
import Derived.Test.YtfmajangcbgooaaGreatDoorG2
import Derived.Test.YtfmajangcbgooaaGreatDoorG4
import Derived.Test.YtfmajangcbgooaaGreatDoorG5
import Derived.Test.YtfmajangcbgooaaGreatDoorG0
namespace Go.Proofs.YtfmajangcbgooaaGreatDoor.Pr
open Go.RowKit Go.Proofs.YtfmajangcbgooaaGreatDoorW.PrintWords Go.Proofs.YtfmajangcbgooaaGreatDoorW.PrintLast Go.Proofs.YtfmajangcbgooaaGreatDoorW.PrintMore
attribute [local go_sem] max2_int min2_int max_two min_two max_three min_three max_four min_four   -- for this text's walks alone
set_option linter.unusedVariables false
set_option linter.unusedSimpArgs false

/-! ### target_Clean: function 93 -/
def target_Clean.l0 : Nat → List ByteArray → List ByteArray → List ByteArray → Int → Int → Option (ByteArray)
 | 0, _, _, _, _, _ => none
 | k + 1, x3, x4, x10, x11, x12 => if x12 < x11 then (if 0 ≤ x12 then (if x12 < (x10.length : Int) then ((target_dots.f k (rdOf ByteArray.empty x10 x12)).bind fun t134 => (if t134 = 0 then (if x4.length < 8796093022208 then (target_Clean.l0 k x3 (x4 ++ [rdOf ByteArray.empty x10 x12]) x10 x11 (wrap64 (x12 + 1))) else (none)) else (if t134 = 2 then (if 0 ≤ (mx (wrap64 ((x4.length : Int) - 1)) 0) then (if (mx (wrap64 ((x4.length : Int) - 1)) 0) ≤ (x4.length : Int) then (target_Clean.l0 k x3 (x4.take ((mx (wrap64 ((x4.length : Int) - 1)) 0) : Int).toNat) x10 x11 (wrap64 (x12 + 1))) else (none)) else (none)) else (target_Clean.l0 k x3 x4 x10 x11 (wrap64 (x12 + 1)))))) else (none)) else (none)) else (if 0 ≤ (wrap64 ((x3.length : Int) - 1)) then (if (wrap64 ((x3.length : Int) - 1)) < (x3.length : Int) then ((target_dots.f k (rdOf ByteArray.empty x3 (wrap64 ((x3.length : Int) - 1)))).bind fun t142 => (if t142 > 0 then (if x4.length < 8796093022208 then ((strings_Join.f (x4 ++ [(⟨#[]⟩ : ByteArray)]) (⟨#[47]⟩ : ByteArray)).bind fun t146 => (if 1 + t146.size ≤ 9223372036854775807 then (some ((⟨#[47]⟩ : ByteArray) ++ t146)) else (none))) else (none)) else ((strings_Join.f x4 (⟨#[47]⟩ : ByteArray)).bind fun t147 => (if 1 + t147.size ≤ 9223372036854775807 then (some ((⟨#[47]⟩ : ByteArray) ++ t147)) else (none))))) else (none)) else (none))
def target_Clean.f (k : Nat) (a0 : ByteArray) : Option (ByteArray) := (strings_TrimPrefix.f a0 (⟨#[47]⟩ : ByteArray)).bind fun t129 => ((strings_Split.f t129 (⟨#[47]⟩ : ByteArray)).bind fun t130 => (target_Clean.l0 k t130 ([] : List ByteArray) t130 (t130.length : Int) 0))
theorem target_Clean.mono_l : ∀ k, (∀ y0 y1 y2 y3 y4, LeO (target_Clean.l0 k y0 y1 y2 y3 y4) (target_Clean.l0 (k + 1) y0 y1 y2 y3 y4))
 | 0 => fun _ _ _ _ _ r h => by simp [target_Clean.l0] at h
 | k + 1 => by
  have ih0 := target_Clean.mono_l k
  ·intros
   have hm0 := @target_dots.mono; unfold target_Clean.l0
   exact moE

theorem target_Clean.mono : ∀ a0 k, LeO (target_Clean.f k a0) (target_Clean.f (k + 1) a0) := by
 intro a0 k
 have ih0 := target_Clean.mono_l k
 have hm0 := @target_dots.mono; unfold target_Clean.f
 exact moE

set_option maxHeartbeats 8000000 in
set_option maxRecDepth 100000 in
theorem target_Clean.calls (k : Nat) (a0 : ByteArray) (r : ByteArray) (w : World) (h : target_Clean.f k a0 = some r) :
  Calls Tryz.prog 93 #[.string a0] w fun e w' => e = .returned (.string r) ∧ Below w.heap.size w w' := by
 have HB := Aside0.mk (Below.refl w.heap.size w)
 have H : ((strings_TrimPrefix.f a0 (⟨#[47]⟩ : ByteArray)).bind fun t1 => ((strings_Split.f t1 (⟨#[47]⟩ : ByteArray)).bind fun t2 => (target_Clean.l0 k t2 ([] : List ByteArray) t2 (t2.length : Int) 0))) = some r := h
 clear h
 replace H := bd_ H; obtain ⟨t1, A1, H⟩ := H
 replace H := bd_ H; obtain ⟨t2, A2, H⟩ := H
 have H' := Aside0.mk H
 clear H
 go_enter Tryz.func93, Tryz.ntmps93
 go_wp2_with (first | ((with_reducible refine gate_callee (f := 143) rfl ?_); refine gL (some 8) Tryz.func143 #[.string a0, .string (⟨#[47]⟩ : ByteArray)] ?_; (with_reducible refine (strings_TrimPrefix.calls a0 (⟨#[47]⟩ : ByteArray) t1 _ A1.out).mono ?_); rintro e w' ⟨rfl, ⟨nd, rfl⟩⟩; refine ⟨_, rfl, ?_⟩) | ((with_reducible refine gate_callee (f := 142) rfl ?_); refine gL (some 9) Tryz.func142 #[.string t1, .string (⟨#[47]⟩ : ByteArray)] ?_; (with_reducible refine (strings_Split.calls t1 (⟨#[47]⟩ : ByteArray) t2 _ A2.out).mono ?_); rintro e w2a1 ⟨v2a2, rfl, ho2a3, hb⟩; refine ⟨_, rfl, ?_⟩; have n0_ := Aside0.mk (Kd.R_lower ho2a3 (below_size bE)); have n1_ := bS bE hb; clear HB; have HO2a4 := n0_; have HB := n1_; clear n0_ n1_; (try clear hb); (try clear hb1); (try clear hk); (try clear hi); (try clear ho2a3); obtain ⟨Ao2a5, co2a5, eo2a5⟩ := Kd.R_slice HO2a4.out; subst eo2a5))
 go_loopg [4, 12] k (fun kq v3s1 v3s2 w' => ∃ (x4_1 : List ByteArray) (x12_1 : Int), v3s2 = .int .i64 x12_1 ∧ Aside0 (target_Clean.l0 kq t2 x4_1 t2 (t2.length : Int) x12_1 = some r) ∧ Aside0 (kq ≤ k) ∧ Aside0 (Kd.R Kd.string 9 w' w.heap.size (fun k_ => some k_ ≠ (v3s1 : Value).ownBlock) (.slice Ao2a5 t2.length co2a5) t2) ∧ Aside0 (Kd.R Kd.string 9 w' w.heap.size (fun k_ => some k_ ≠ ((.slice Ao2a5 t2.length co2a5) : Value).ownBlock ∧ some k_ ≠ ((.slice Ao2a5 t2.length co2a5) : Value).ownBlock) v3s1 x4_1) ∧ Aside0 (Kd.R Kd.string 9 w' w.heap.size (fun k_ => some k_ ≠ (v3s1 : Value).ownBlock) (.slice Ao2a5 t2.length co2a5) t2) ∧ Aside0 (Below w.heap.size w w'))
 case atStart => exact ⟨(([] : List ByteArray)), (0), rS, H', ⟨Nat.le_refl _⟩, ⟨by (with_reducible repeat (first | apply Kd.R_alloc | apply Kd.R_drewN | apply Kd.R_drew)); exact Kd.R_mono HO2a4.out (fun _ hk => (by simp [Value.ownBlock]))⟩, ⟨by first | exact Kd.R_nil _ _ _ _ _ | exact Kd.N_nil _ _ _ _ _ | exact Kd.V_nil _ _ _ _ _ | exact Kd.Q_nil _ _ _ _ _ | exact Kd.S_nil _ _ _ _ _⟩, ⟨by (with_reducible repeat (first | apply Kd.R_alloc | apply Kd.R_drewN | apply Kd.R_drew)); exact Kd.R_mono HO2a4.out (fun _ hk => (by simp [Value.ownBlock]))⟩, ⟨bE⟩⟩
 case round =>
  clear H'
  obtain ⟨x4_1, x12_1, rfl, HA, HK1, HO_3, HO_4, HO_10, HB⟩ := hrel
  cases gk with
  | zero => exact absurd HA.out (by simp [target_Clean.l0])
  | succ k1 =>
   have H := HA.out
   clear HA
   simp only [target_Clean.l0] at H
   refine em_ (x12_1 < (t2.length : Int)) (fun c4 => ?g1p) (fun c4 => ?g1n)
   case' g1p =>
    rw [if_pos c4] at H
    have c4b0 : decide (x12_1 < (t2.length : Int)) = true := decide_eq_true c4
    clear c4
    replace H := iteN_ H; obtain ⟨c5, H⟩ := H
    have c5b0 : decide (0 ≤ x12_1) = true := decide_eq_true c5
    clear c5
    replace H := iteN_ H; obtain ⟨c6, H⟩ := H
    have c6b0 : decide (x12_1 < (t2.length : Int)) = true := decide_eq_true c6
    clear c6
    replace H := bd_ H; obtain ⟨t3, A7, H⟩ := H
    refine em_ (t3 = 0) (fun c8 => ?g2p) (fun c8 => ?g2n)
    case' g2p =>
     rw [if_pos c8] at H
     have c8b0 : (t3 == 0) = true := beq_iff_eq.mpr c8
     have c8b1 : (t3 != 0) = false := bne_eq_false_iff_eq.mpr c8
     clear c8
     replace H := iteN_ H; obtain ⟨c9, H⟩ := H
     have LMc9 := Aside0.mk c9
     clear c9
     obtain ⟨y10, hy10⟩ : ∃ y_ : List ByteArray, y_ = (x4_1 ++ [rdOf ByteArray.empty t2 x12_1]) := ⟨_, rfl⟩
     replace H : (target_Clean.l0 k1 t2 y10 t2 (t2.length : Int) (wrap64 (x12_1 + 1))) = some r := by first | (rw [hy10]; with_reducible exact H) | (have H2_ := (Option.bind_some _ _).symm.trans H; rw [hy10]; with_reducible exact H2_) | (have H2_ := (Option.bind_some _ _).symm.trans H; with_reducible exact H2_) | with_reducible exact H | (rw [hy10]; exact H) | exact H
     have Ny10 := Aside0.mk hy10
     clear hy10
     have H' := Aside0.mk H
     clear H
     have p11 : 0 ≤ (x12_1 : Int) := of_decide_eq_true mE
     have q11 : x12_1 < (t2.length : Int) := of_decide_eq_true mE
     obtain ⟨ad11, e4, hx11_0⟩ := Kd.at_string (Kd.R_reads' HO_10.out).2.2 x12_1 p11 q11
     cases e4
     replace p11 := eq_true p11
     replace q11 := eq_true q11
     have G6 := trivial; have M9_0 := trivial; have M10_0 := trivial
    case' g2n =>
     rw [if_neg c8] at H
     have c8b0 : (t3 == 0) = false := beq_eq_false_iff_ne.mpr c8
     have c8b1 : (t3 != 0) = true := bne_iff_ne.mpr c8
     refine em_ (t3 = 2) (fun c9 => ?g3p) (fun c9 => ?g3n)
     case' g3p =>
      rw [if_pos c9] at H
      have c9b0 : (t3 == 2) = true := beq_iff_eq.mpr c9
      have c9b1 : (t3 != 2) = false := bne_eq_false_iff_eq.mpr c9
      clear c9
      obtain ⟨ji10, hji10⟩ : ∃ j_ : Int, (mx (wrap64 ((x4_1.length : Int) - 1)) 0) = j_ := ⟨_, rfl⟩
      replace H : (if 0 ≤ (ji10) then (if (ji10) ≤ (x4_1.length : Int) then (target_Clean.l0 k1 t2 (x4_1.take ((ji10) : Int).toNat) t2 (t2.length : Int) (wrap64 (x12_1 + 1))) else (none)) else (none)) = some r := by first | (rw [hji10] at H; exact H) | (simp only [hji10] at H ⊢; exact H)
      (try rw [hji10] at A7)
      have hji10_ : (if (wrap64 ((x4_1.length : Int) - 1)) < 0 then 0 else (wrap64 ((x4_1.length : Int) - 1))) = ji10 := hji10
      replace H := iteN_ H; obtain ⟨c11, H⟩ := H
      have c11b0 := eq_true c11
      have c11b1 : decide (0 ≤ (ji10)) = true := decide_eq_true c11
      clear c11
      replace H := iteN_ H; obtain ⟨c12, H⟩ := H
      have c12b0 := eq_true c12
      have c12b1 : decide ((ji10) ≤ (x4_1.length : Int)) = true := decide_eq_true c12
      clear c12
      obtain ⟨y13, hy13⟩ : ∃ y_ : List ByteArray, y_ = (x4_1.take ((ji10) : Int).toNat) := ⟨_, rfl⟩
      replace H : (target_Clean.l0 k1 t2 y13 t2 (t2.length : Int) (wrap64 (x12_1 + 1))) = some r := by first | (rw [hy13]; with_reducible exact H) | (have H2_ := (Option.bind_some _ _).symm.trans H; rw [hy13]; with_reducible exact H2_) | (have H2_ := (Option.bind_some _ _).symm.trans H; with_reducible exact H2_) | with_reducible exact H | (rw [hy13]; exact H) | exact H
      have Ny13 := Aside0.mk hy13
      clear hy13
      have H' := Aside0.mk H
      clear H
      have p14 : 0 ≤ (x12_1 : Int) := of_decide_eq_true mE
      have q14 : x12_1 < (t2.length : Int) := of_decide_eq_true mE
      obtain ⟨ad14, e4, hx14_0⟩ := Kd.at_string (Kd.R_reads' HO_10.out).2.2 x12_1 p14 q14
      cases e4
      replace p14 := eq_true p14
      replace q14 := eq_true q14
      have G5 := trivial; have M9_0 := trivial; have M10_1 := trivial
     case' g3n =>
      rw [if_neg c9] at H
      have c9b0 : (t3 == 2) = false := beq_eq_false_iff_ne.mpr c9
      have c9b1 : (t3 != 2) = true := bne_iff_ne.mpr c9
      have H' := Aside0.mk H
      clear H
      have p10 : 0 ≤ (x12_1 : Int) := of_decide_eq_true mE
      have q10 : x12_1 < (t2.length : Int) := of_decide_eq_true mE
      obtain ⟨ad10, e4, hx10_0⟩ := Kd.at_string (Kd.R_reads' HO_10.out).2.2 x12_1 p10 q10
      cases e4
      replace p10 := eq_true p10
      replace q10 := eq_true q10
      have G6 := trivial; have M9_0 := trivial; have M10_2 := trivial
   case' g1n =>
    rw [if_neg c4] at H
    have c4b0 : decide (x12_1 < (t2.length : Int)) = false := decide_eq_false c4
    clear c4
    obtain ⟨ji5, hji5⟩ : ∃ j_ : Int, (wrap64 ((t2.length : Int) - 1)) = j_ := ⟨_, rfl⟩
    replace H : (if 0 ≤ (ji5) then (if (ji5) < (t2.length : Int) then ((target_dots.f k1 (rdOf ByteArray.empty t2 (ji5))).bind fun t3 => (if t3 > 0 then (if x4_1.length < 8796093022208 then ((strings_Join.f (x4_1 ++ [(⟨#[]⟩ : ByteArray)]) (⟨#[47]⟩ : ByteArray)).bind fun t4 => (if 1 + t4.size ≤ 9223372036854775807 then (some ((⟨#[47]⟩ : ByteArray) ++ t4)) else (none))) else (none)) else ((strings_Join.f x4_1 (⟨#[47]⟩ : ByteArray)).bind fun t5 => (if 1 + t5.size ≤ 9223372036854775807 then (some ((⟨#[47]⟩ : ByteArray) ++ t5)) else (none))))) else (none)) else (none)) = some r := by first | (rw [hji5] at H; exact H) | (simp only [hji5] at H ⊢; exact H)
    have hji5w : (IntKind.i64.wrap ((t2.length : Int) - 1)) = ji5 := (i64_w _).trans hji5
    replace H := iteN_ H; obtain ⟨c6, H⟩ := H
    have c6b0 : decide (0 ≤ (ji5)) = true := decide_eq_true c6
    clear c6
    replace H := iteN_ H; obtain ⟨c7, H⟩ := H
    have c7b0 : decide ((ji5) < (t2.length : Int)) = true := decide_eq_true c7
    clear c7
    replace H := bd_ H; obtain ⟨t3, A8, H⟩ := H
    refine em_ (t3 > 0) (fun c9 => ?g4p) (fun c9 => ?g4n)
    case' g4p =>
     rw [if_pos c9] at H
     have c9b0 : decide (0 < t3) = true := decide_eq_true c9
     clear c9
     replace H := iteN_ H; obtain ⟨c10, H⟩ := H
     have LMc10 := Aside0.mk c10
     clear c10
     obtain ⟨y11, hy11⟩ : ∃ y_ : List ByteArray, y_ = (x4_1 ++ [(⟨#[]⟩ : ByteArray)]) := ⟨_, rfl⟩
     replace H : ((strings_Join.f y11 (⟨#[47]⟩ : ByteArray)).bind fun t4 => (if 1 + t4.size ≤ 9223372036854775807 then (some ((⟨#[47]⟩ : ByteArray) ++ t4)) else (none))) = some r := by first | (rw [hy11]; with_reducible exact H) | (have H2_ := (Option.bind_some _ _).symm.trans H; rw [hy11]; with_reducible exact H2_) | (have H2_ := (Option.bind_some _ _).symm.trans H; with_reducible exact H2_) | with_reducible exact H | (rw [hy11]; exact H) | exact H
     have Ny11 := Aside0.mk hy11
     clear hy11
     replace H := bd_ H; obtain ⟨t4, A12, H⟩ := H
     replace H := iteN_ H; obtain ⟨c13, H⟩ := H
     have c13b0 := eq_true c13
     have c13b1 : decide (1 + t4.size ≤ 9223372036854775807) = true := decide_eq_true c13
     try have c13b2 : (9223372036854775807 < 1 + t4.size) = False := eq_false (Nat.not_lt.2 c13)
     obtain rfl := si_ H
     have p14 : 0 ≤ ((ji5) : Int) := of_decide_eq_true mE
     have q14 : (ji5) < (t2.length : Int) := of_decide_eq_true mE
     obtain ⟨ad14, e6, hx14_0⟩ := Kd.at_string (Kd.R_reads' HO_3.out).2.2 (ji5) p14 q14
     cases e6
     replace p14 := eq_true p14
     replace q14 := eq_true q14
     have G8 := trivial; have M9_1 := trivial
    case' g4n =>
     rw [if_neg c9] at H
     have c9b0 : decide (0 < t3) = false := decide_eq_false c9
     clear c9
     replace H := bd_ H; obtain ⟨t5, A10, H⟩ := H
     replace H := iteN_ H; obtain ⟨c11, H⟩ := H
     have c11b0 := eq_true c11
     have c11b1 : decide (1 + t5.size ≤ 9223372036854775807) = true := decide_eq_true c11
     try have c11b2 : (9223372036854775807 < 1 + t5.size) = False := eq_false (Nat.not_lt.2 c11)
     obtain rfl := si_ H
     have p12 : 0 ≤ ((ji5) : Int) := of_decide_eq_true mE
     have q12 : (ji5) < (t2.length : Int) := of_decide_eq_true mE
     obtain ⟨ad12, e6, hx12_0⟩ := Kd.at_string (Kd.R_reads' HO_3.out).2.2 (ji5) p12 q12
     cases e6
     replace p12 := eq_true p12
     replace q12 := eq_true q12
     have G7 := trivial; have M9_1 := trivial
   all_goals
    go_wp2_with (first | (have z_ := G5; clear z_; ((with_reducible refine gate_callee (f := 144) rfl ?_); refine gL (some 17) Tryz.func144 #[.string (rdOf ByteArray.empty t2 x12_1)] ?_; (with_reducible refine (target_dots.calls k1 (rdOf ByteArray.empty t2 x12_1) _ _ A7.out).mono ?_); rintro e w3a1 ⟨rfl, hb⟩; refine ⟨_, rfl, ?_⟩; replace HO_3 := rM HO_3 hb; replace HO_4 := rM HO_4 hb; replace HO_10 := rM HO_10 hb; replace HB := bS bE hb; (try clear hb); obtain ⟨Ao3a2, co3a2, eo3a2⟩ := Kd.R_slice HO_4.out; subst eo3a2; have q3a3 : ((ji10) : Int) ≤ ((x4_1.length : Int) : Int) := of_decide_eq_true mE; obtain ⟨i3a4, hi3a4, _, hsz3a5, _⟩ := info_parts info9; have hcut3a5 := cut_to (P := Tryz.prog) 39 9 .i64 Tryz.underlying39 hi3a4 Ao3a2 x4_1.length co3a2 (ji10) (of_decide_eq_true mE) q3a3 (Kd.R_reads' HO_4.out).2.1; have hr20 := Kd.R_take (m := ((ji10) : Int).toNat) HO_4.out (by omega); have hy3a3 : y13.length = ((ji10) : Int).toNat := (by rw [Ny13.out, List.length_take]; omega); rw [← Ny13.out] at hr20; rw [← hy3a3] at hr20 hcut3a5; clear hy3a3 hi3a4 hsz3a5 HO_4; have HO3a6 := Aside0.mk hr20; clear hr20; replace q3a3 := eq_true q3a3)) | (have z_ := G6; clear z_; ((with_reducible refine gate_callee (f := 144) rfl ?_); refine gL (some 17) Tryz.func144 #[.string (rdOf ByteArray.empty t2 x12_1)] ?_; (with_reducible refine (target_dots.calls k1 (rdOf ByteArray.empty t2 x12_1) _ _ A7.out).mono ?_); rintro e w3a1 ⟨rfl, hb⟩; refine ⟨_, rfl, ?_⟩; replace HO_3 := rM HO_3 hb; replace HO_4 := rM HO_4 hb; replace HO_10 := rM HO_10 hb; replace HB := bS bE hb; (try clear hb))) | ((with_reducible refine gate_builtin (b := .append) (xs := #[.tmp 20, .tmp 22]) rfl ?_); at_builtin; refine Kd.R_append Kd.string (w0 := w) w.heap.size rfl (.tmp 20) (.tmp 22) 39 9 (.string ⟨#[]⟩) 16 rfl Tryz.underlying39 info9 rfl (by decide) (by omega) u4 x4_1 (rdOf ByteArray.empty t2 x12_1) [.string (rdOf ByteArray.empty t2 x12_1)] (fun k_ => some k_ ≠ (.slice (some ad11) t2.length co2a5 : Value).ownBlock ∧ some k_ ≠ (.slice (some ad11) t2.length co2a5 : Value).ownBlock) (fun _ => False) rfl rfl ?aP (fun _ hk => hk.elim) ?aF ?aO ?aB ?aS ?aL ?_; (case aP => exact rfl); (case aB => exact bE); (case aF => exact (fun k_ hk => ⟨Kd.fresh' (Kd.R_lt (rK HO_3.out)) k_ hk, Kd.fresh' (Kd.R_lt (rK HO_10.out)) k_ hk⟩)); (case aO => exact (rK HO_4.out)); (case aS => exact (below_size bE)); (case aL => have := LMc9.out; omega); intro v4a1 w4a2 ho hb hg hat; rw [← Ny10.out] at ho; have n0_ := Aside0.mk (Kd.R_after (ok := (fun _ => True)) (rK (Kd.R_mono HO_3.out (fun _ hk => ⟨trivial, hk⟩))) hg hat); have n1_ := Aside0.mk (Kd.R_after (ok := (fun _ => True)) (rK (Kd.R_mono HO_10.out (fun _ hk => ⟨trivial, hk⟩))) hg hat); have n2_ := Aside0.mk (hb); have n3_ := Aside0.mk (ho); clear HO_3; clear HO_10; clear HB; clear HO_4; have HO_3 := n0_; have HO_10 := n1_; have HB := n2_; have HO4a3 := n3_; clear n0_ n1_ n2_ n3_; clear ho hb hg hat) | (have z_ := G7; clear z_; ((with_reducible refine gate_callee (f := 144) rfl ?_); refine goesL_ (some 39) rfl rfl Tryz.func144 (by kernel_rfl) rfl #[.string (rdOf ByteArray.empty t2 (ji5))] rfl (by (try simp only [List.map_toArray, List.map_cons, List.map_nil]); first | done | (simp only [hji5]; rfl) | rfl | (simp only [List.length_drop, List.length_take]; rfl)) ?_; (with_reducible refine (target_dots.calls k1 (rdOf ByteArray.empty t2 (ji5)) _ _ A8.out).mono ?_); rintro e w5a1 ⟨rfl, hb⟩; refine ⟨_, rfl, ?_⟩; replace HO_3 := rM HO_3 hb; replace HO_4 := rM HO_4 hb; replace HO_10 := rM HO_10 hb; replace HB := bS bE hb; (try clear hb); obtain ⟨Ao5a2, co5a2, eo5a2⟩ := Kd.R_slice HO_4.out; subst eo5a2)) | (have z_ := G8; clear z_; ((with_reducible refine gate_callee (f := 144) rfl ?_); refine goesL_ (some 39) rfl rfl Tryz.func144 (by kernel_rfl) rfl #[.string (rdOf ByteArray.empty t2 (ji5))] rfl (by (try simp only [List.map_toArray, List.map_cons, List.map_nil]); first | done | (simp only [hji5]; rfl) | rfl | (simp only [List.length_drop, List.length_take]; rfl)) ?_; (with_reducible refine (target_dots.calls k1 (rdOf ByteArray.empty t2 (ji5)) _ _ A8.out).mono ?_); rintro e w5a1 ⟨rfl, hb⟩; refine ⟨_, rfl, ?_⟩; replace HO_3 := rM HO_3 hb; replace HO_4 := rM HO_4 hb; replace HO_10 := rM HO_10 hb; replace HB := bS bE hb; (try clear hb))) | ((with_reducible refine gate_builtin (b := .append) (xs := #[.tmp 41, .tmp 42]) rfl ?_); at_builtin; refine Kd.R_append Kd.string (w0 := w) w.heap.size rfl (.tmp 41) (.tmp 42) 39 9 (.string ⟨#[]⟩) 16 rfl Tryz.underlying39 info9 rfl (by decide) (by omega) u4 x4_1 (⟨#[]⟩ : ByteArray) [.string (⟨#[]⟩ : ByteArray)] (fun k_ => some k_ ≠ (.slice (some ad14) t2.length co2a5 : Value).ownBlock ∧ some k_ ≠ (.slice (some ad14) t2.length co2a5 : Value).ownBlock) (fun _ => False) rfl rfl ?aP (fun _ hk => hk.elim) ?aF ?aO ?aB ?aS ?aL ?_; (case aP => exact rfl); (case aB => exact bE); (case aF => exact (fun k_ hk => ⟨Kd.fresh' (Kd.R_lt (rK HO_3.out)) k_ hk, Kd.fresh' (Kd.R_lt (rK HO_10.out)) k_ hk⟩)); (case aO => exact (rK HO_4.out)); (case aS => exact (below_size bE)); (case aL => have := LMc10.out; omega); intro v6a1 w6a2 ho hb hg hat; rw [← Ny11.out] at ho; have n0_ := Aside0.mk (Kd.R_after (ok := (fun _ => True)) (rK (Kd.R_mono HO_3.out (fun _ hk => ⟨trivial, hk⟩))) hg hat); have n1_ := Aside0.mk (Kd.R_after (ok := (fun _ => True)) (rK (Kd.R_mono HO_10.out (fun _ hk => ⟨trivial, hk⟩))) hg hat); have n2_ := Aside0.mk (hb); have n3_ := Aside0.mk (ho); clear HO_3; clear HO_10; clear HB; clear HO_4; have HO_3 := n0_; have HO_10 := n1_; have HB := n2_; have HO6a3 := n3_; clear n0_ n1_ n2_ n3_; clear ho hb hg hat; obtain ⟨Ao6a4, co6a4, eo6a4⟩ := Kd.R_slice HO6a3.out; subst eo6a4) | ((with_reducible refine gate_callee (f := 68) rfl ?_); refine gL (some 45) Tryz.func68 #[.slice Ao6a4 y11.length co6a4, .string (⟨#[47]⟩ : ByteArray)] ?_; (with_reducible refine (strings_Join.calls _ _ y11 (⟨#[47]⟩ : ByteArray) t4 _ ?side1 ?side2 A12.out).mono ?_); (case side1 => repeat (first | exact (Kd.R_reads' HO6a3.out).2.2 | (with_reducible refine Kd.C_alloc ?_ _) | (with_reducible refine Kd.C_drewN ?_ _) | (with_reducible refine Kd.C_drew ?_))); (case side2 => exact (Kd.R_reads' HO6a3.out).2.1); rintro e w7a1 ⟨rfl, hb⟩; refine ⟨_, rfl, ?_⟩; replace HO_3 := rM HO_3 hb; replace HO_10 := rM HO_10 hb; replace HO6a3 := rM HO6a3 hb; replace HB := bS bE hb; (try clear hb)) | ((with_reducible refine gate_callee (f := 68) rfl ?_); refine gL (some 45) Tryz.func68 #[.slice Ao5a2 x4_1.length co5a2, .string (⟨#[47]⟩ : ByteArray)] ?_; (with_reducible refine (strings_Join.calls _ _ x4_1 (⟨#[47]⟩ : ByteArray) t5 _ ?side1 ?side2 A10.out).mono ?_); (case side1 => repeat (first | exact (Kd.R_reads' HO_4.out).2.2 | (with_reducible refine Kd.C_alloc ?_ _) | (with_reducible refine Kd.C_drewN ?_ _) | (with_reducible refine Kd.C_drew ?_))); (case side2 => exact (Kd.R_reads' HO_4.out).2.1); rintro e w8a1 ⟨rfl, hb⟩; refine ⟨_, rfl, ?_⟩; replace HO_3 := rM HO_3 hb; replace HO_4 := rM HO_4 hb; replace HO_10 := rM HO_10 hb; replace HB := bS bE hb; (try clear hb)))
    first
    | clear M9_0
      go_roundg k1
      case measure => have := HK1.out; omega
      first
      | clear M10_0
        case rel => exact ⟨(y10), (wrap64 (x12_1 + 1)), rS, H', ⟨by have := HK1.out; omega⟩, ⟨rK (Kd.R_mono HO_3.out (fun _ hk => hk.2))⟩, ⟨by first | exact rK HO4a3.out | exact rK (Kd.R_mono HO4a3.out (fun k_ h_ e_ => h_ (e_.trans (own_len _ _ _ _))))⟩, ⟨rK (Kd.R_mono HO_10.out (fun _ hk => hk.2))⟩, ⟨bE⟩⟩
      | clear M10_1
        case rel => exact ⟨(y13), (wrap64 (x12_1 + 1)), rS, H', ⟨by have := HK1.out; omega⟩, ⟨by first | exact rK HO_3.out | exact rK (Kd.R_mono HO_3.out (fun k_ h_ e_ => h_ (e_.trans (own_len _ _ _ _))))⟩, ⟨by first | exact rK HO3a6.out | exact rK (Kd.R_mono HO3a6.out (fun k_ h_ e_ => h_ (e_.trans (own_len _ _ _ _))))⟩, ⟨by first | exact rK HO_10.out | exact rK (Kd.R_mono HO_10.out (fun k_ h_ e_ => h_ (e_.trans (own_len _ _ _ _))))⟩, ⟨bE⟩⟩
      | clear M10_2
        case rel => exact ⟨(x4_1), (wrap64 (x12_1 + 1)), rS, H', ⟨by have := HK1.out; omega⟩, ⟨by first | exact rK HO_3.out | exact rK (Kd.R_mono HO_3.out (fun k_ h_ e_ => h_ (e_.trans (own_len _ _ _ _))))⟩, ⟨by first | exact rK HO_4.out | exact rK (Kd.R_mono HO_4.out (fun k_ h_ e_ => h_ (e_.trans (own_len _ _ _ _))))⟩, ⟨by first | exact rK HO_10.out | exact rK (Kd.R_mono HO_10.out (fun k_ h_ e_ => h_ (e_.trans (own_len _ _ _ _))))⟩, ⟨bE⟩⟩
    | clear M9_1
      go_ret
      exact ⟨by first | rfl | (simp [errW_none, errW_some] <;> rfl) | (simp only [← hji5]; first | rfl | (simp [errW_none, errW_some] <;> rfl)) | (simp [*, errW_none, errW_some] <;> rfl), bE⟩

/-! ### origin_Key: function 66 -/
def origin_Key.f (k : Nat) (a0_0 : ByteArray) (a0_1 : ByteArray) (a0_2 : Int) : Option (ByteArray) := (origin_Check.f k a0_0 a0_1 a0_2).bind fun t149 => (if t149 = true then (if a0_0.size + 3 ≤ 9223372036854775807 then (if (a0_0 ++ (⟨#[58, 47, 47]⟩ : ByteArray)).size + a0_1.size ≤ 9223372036854775807 then (if ((a0_0 ++ (⟨#[58, 47, 47]⟩ : ByteArray)) ++ a0_1).size + 1 ≤ 9223372036854775807 then ((strconv_Itoa.f a0_2).bind fun t150 => (if (((a0_0 ++ (⟨#[58, 47, 47]⟩ : ByteArray)) ++ a0_1) ++ (⟨#[58]⟩ : ByteArray)).size + t150.size ≤ 9223372036854775807 then (some ((((a0_0 ++ (⟨#[58, 47, 47]⟩ : ByteArray)) ++ a0_1) ++ (⟨#[58]⟩ : ByteArray)) ++ t150)) else (none))) else (none)) else (none)) else (none)) else (some (⟨#[]⟩ : ByteArray)))
theorem origin_Key.mono : ∀ a0 a1 a2 k, LeO (origin_Key.f k a0 a1 a2) (origin_Key.f (k + 1) a0 a1 a2) := by
 intro a0 a1 a2 k
 have hm0 := @origin_Check.mono; unfold origin_Key.f
 exact moE

def origin_Key.T3 : Bool × List (List Nat × List Nat) := (true, [([], []), ([0], [0]), ([1], [1]), ([], []), ([3], [3]), ([2, 4], [2, 4]), ([5], [5]), ([], []), ([7], [7]), ([8], [8]), ([6, 9], [6, 9]), ([10, 9, 0, 1, 2, 3, 4, 5, 6, 7, 8, 9, 10], [10])])
def origin_Key.B3 : List Nat := [0, 1, 3, 0, 8, 31, 63, 0, 128, 384, 1023, 2047]
theorem origin_Key.tab3 : rtab .any (opsOf Tryz.f66 3) = origin_Key.T3 := by kernel_rfl
theorem origin_Key.bits3 : waitsOk origin_Key.T3.2 origin_Key.B3 = true := by kernel_rfl
set_option maxHeartbeats 8000000 in
set_option maxRecDepth 100000 in
theorem origin_Key.calls (k : Nat) (a0_0 : ByteArray) (a0_1 : ByteArray) (a0_2 : Int) (r : ByteArray) (w : World) (hM_ : Aside0 (LaidW w)) (h : origin_Key.f k a0_0 a0_1 a0_2 = some r) :
  Calls Tryz.prog 66 #[.agg #[.string a0_0, .string a0_1, .int .i64 a0_2]] w fun e w' => e = .returned (.string r) ∧ Below w.heap.size w w' := by
 have hu70 := Tryz.underlying70
 have HB := Aside0.mk (Below.refl w.heap.size w)
 have H : ((origin_Check.f k a0_0 a0_1 a0_2).bind fun t1 => (if t1 = true then (if a0_0.size + 3 ≤ 9223372036854775807 then (if (a0_0 ++ (⟨#[58, 47, 47]⟩ : ByteArray)).size + a0_1.size ≤ 9223372036854775807 then (if ((a0_0 ++ (⟨#[58, 47, 47]⟩ : ByteArray)) ++ a0_1).size + 1 ≤ 9223372036854775807 then ((strconv_Itoa.f a0_2).bind fun t2 => (if (((a0_0 ++ (⟨#[58, 47, 47]⟩ : ByteArray)) ++ a0_1) ++ (⟨#[58]⟩ : ByteArray)).size + t2.size ≤ 9223372036854775807 then (some ((((a0_0 ++ (⟨#[58, 47, 47]⟩ : ByteArray)) ++ a0_1) ++ (⟨#[58]⟩ : ByteArray)) ++ t2)) else (none))) else (none)) else (none)) else (none)) else (some (⟨#[]⟩ : ByteArray)))) = some r := h
 clear h
 replace H := bd_ H; obtain ⟨t1, A1, H⟩ := H
 refine em_ (t1 = true) (fun c2 => ?g1p) (fun c2 => ?g1n)
 case' g1p =>
  subst c2
  replace H := ifT_ H
  replace H := iteN_ H; obtain ⟨c3, H⟩ := H
  have c3b0 := eq_true c3
  have c3b1 : decide (a0_0.size + 3 ≤ 9223372036854775807) = true := decide_eq_true c3
  try have c3b2 : (9223372036854775807 < a0_0.size + 3) = False := eq_false (Nat.not_lt.2 c3)
  replace H := iteN_ H; obtain ⟨c4, H⟩ := H
  try (have c4b5 := c4; simp only [ByteArray.size_append, Int.natCast_add] at c4b5)
  have c4b0 := eq_true c4
  have c4b1 : decide ((a0_0 ++ (⟨#[58, 47, 47]⟩ : ByteArray)).size + a0_1.size ≤ 9223372036854775807) = true := decide_eq_true c4
  try have c4b2 : (9223372036854775807 < (a0_0 ++ (⟨#[58, 47, 47]⟩ : ByteArray)).size + a0_1.size) = False := eq_false (Nat.not_lt.2 c4)
  try have c4b3 : (9223372036854775807 < a0_0.size + 3 + a0_1.size) = False := eq_false (Nat.not_lt.2 (by have z_ := c4; simp only [ByteArray.size_append] at z_; first | exact z_ | simpa using z_))
  replace H := iteN_ H; obtain ⟨c5, H⟩ := H
  try (have c5b5 := c5; simp only [ByteArray.size_append, Int.natCast_add] at c5b5)
  have c5b0 := eq_true c5
  have c5b1 : decide (((a0_0 ++ (⟨#[58, 47, 47]⟩ : ByteArray)) ++ a0_1).size + 1 ≤ 9223372036854775807) = true := decide_eq_true c5
  try have c5b2 : (9223372036854775807 < ((a0_0 ++ (⟨#[58, 47, 47]⟩ : ByteArray)) ++ a0_1).size + 1) = False := eq_false (Nat.not_lt.2 c5)
  try have c5b3 : (9223372036854775807 < a0_0.size + 3 + a0_1.size + 1) = False := eq_false (Nat.not_lt.2 (by have z_ := c5; simp only [ByteArray.size_append] at z_; first | exact z_ | simpa using z_))
  replace H := bd_ H; obtain ⟨t2, A6, H⟩ := H
  replace H := iteN_ H; obtain ⟨c7, H⟩ := H
  try (have c7b5 := c7; simp only [ByteArray.size_append, Int.natCast_add] at c7b5)
  have c7b0 := eq_true c7
  have c7b1 : decide ((((a0_0 ++ (⟨#[58, 47, 47]⟩ : ByteArray)) ++ a0_1) ++ (⟨#[58]⟩ : ByteArray)).size + t2.size ≤ 9223372036854775807) = true := decide_eq_true c7
  try have c7b2 : (9223372036854775807 < (((a0_0 ++ (⟨#[58, 47, 47]⟩ : ByteArray)) ++ a0_1) ++ (⟨#[58]⟩ : ByteArray)).size + t2.size) = False := eq_false (Nat.not_lt.2 c7)
  try have c7b3 : (9223372036854775807 < a0_0.size + 3 + a0_1.size + 1 + t2.size) = False := eq_false (Nat.not_lt.2 (by have z_ := c7; simp only [ByteArray.size_append] at z_; first | exact z_ | simpa using z_))
  obtain rfl := si_ H
  have M2_0 := trivial
 case' g1n =>
  replace c2 := Bool.eq_false_iff.mpr c2
  subst c2
  replace H := ifF_ H
  obtain rfl := si_ H
  have M2_1 := trivial
 all_goals
  go_enter Tryz.func66, Tryz.ntmps66
  try go_wp2_with (first | ((with_reducible refine gate_dst (N := 1) rfl ?_); refine bxE (N := 1) (cs := #[.string a0_0, .string a0_1, .int .i64 a0_2]) (t := 70) fun gb1a1 hg w1a2 hbox hb => ?_; obtain ⟨HB', BK1a1, GW1a1⟩ := bx_ bE hg hbox hb; have GE1a1 := GW1a1; clear HB hb hbox hg; have HB := HB'; clear HB'; obtain ⟨z1a3_0, z1a3_1, z1a3_2, zf1a3_0, zf1a3_1, zf1a3_2⟩ := bk3_ BK1a1) | ((with_reducible refine gate_callee (f := 98) rfl ?_); refine gL (some 4) Tryz.func98 #[.agg #[.string a0_0, .string a0_1, .int .i64 a0_2]] ?_; (with_reducible refine (origin_Check.calls k a0_0 a0_1 a0_2 _ _ A1.out).mono ?_); rintro e w2a1 ⟨rfl, hb⟩; refine ⟨_, rfl, ?_⟩; replace BK1a1 := kM BK1a1 hb; replace HB := bS bE hb; (try clear hb)))
  first
  | clear M2_0
    have n0_ := Aside0.mk (blk_drew BK1a1.out)
    have n1_ := Aside0.mk (below_drew1 HB.out)
    clear BK1a1
    clear HB
    have BK1a1 := n0_
    have HB := n1_
    clear n0_ n1_
    refine start_ (n := 12) (S := fun w' => w'.cell? ⟨gb1a1, 0, none⟩ = some (.string a0_0) ∧ w'.cell? ⟨gb1a1, 1, none⟩ = some (.string a0_1) ∧ w'.cell? ⟨gb1a1, 2, none⟩ = some (.int .i64 a0_2)) (ds := []) (bz 12 0) (by kernel_rfl) rfl rfl (bkc3_ BK1a1) (fun hHeld => ?_); refine with_tabW origin_Key.tab3 origin_Key.bits3 (fun HT_ HW_ => ?_)
    generalize w2a1.drew = w11s1 at BK1a1 HB hHeld ⊢
    refine pA (i := 0) (N := some 6) (bz 12 1) (any_of HT_.out (by kernel_rfl)) ?_
    refine pA (i := 3) (N := some 9) (bz 12 9) (any_of HT_.out (by kernel_rfl)) ?_
    refine pA (i := 7) (N := some 13) (bz 12 137) (any_of HT_.out (by kernel_rfl)) ?_
    refine tA3 (i := 1) (N := some 7) (bz 12 139) (take_ofW HT_.out HW_.out (by kernel_rfl)) hHeld ?_
    refine pA (i := 2) (N := some 8) (bz 12 143) (any_of HT_.out (by kernel_rfl)) ?_
    refine tA3 (i := 4) (N := some 10) (bz 12 159) (take_ofW HT_.out HW_.out (by kernel_rfl)) hHeld ?_
    refine pA (i := 5) (N := some 11) (bz 12 191) (any_of HT_.out (by kernel_rfl)) ?_
    refine pA (i := 6) (N := some 12) (bz 12 255) (any_of HT_.out (by kernel_rfl)) ?_
    refine tA3 (i := 8) (N := some 14) (bz 12 511) (take_ofW HT_.out HW_.out (by kernel_rfl)) hHeld ?_
    refine one_ (i := 9) (N := some 15) (bz 12 1023) rfl rfl (one_of HT_.out (by kernel_rfl)) (by decide) (fun K hK => ?_)
    refine gS Tryz.func124 #[.int .i64 a0_2] ?_
    with_reducible refine (strconv_Itoa.calls a0_2 t2 _ ?side1 A6.out).mono ?_
    (case side1 => exact ⟨lE⟩)
    rintro e w25s1 ⟨rfl, hb⟩
    refine ⟨_, rfl, ?_⟩
    replace BK1a1 := kM BK1a1 hb; replace HB := bS bE hb; (try clear hb)
    refine hK.out _ _ (bkc3_ BK1a1) (fun hHeld => ?_)
    clear hK K
    refine nA 15 ?_
    refine pA (i := 10) (N := some 16) (bz 12 2047) (any_of HT_.out (by kernel_rfl)) ?_
    refine pA (i := 11) (N := some 2) (bz 12 4095) (any_of HT_.out (by kernel_rfl)) ?_
    refine done_ (done_of HT_.out (by kernel_rfl)) ?_
    try go_wp2
    go_ret
    exact ⟨rE, bE⟩
  | clear M2_1
    go_ret
    exact ⟨rE, bE⟩

/-! ### origin_Show: function 59 -/
def origin_Show.f (k : Nat) (a0_0 : ByteArray) (a0_1 : ByteArray) (a0_2 : Int) : Option (ByteArray) := (origin_Check.f k a0_0 a0_1 a0_2).bind fun t152 => (if t152 = true then ((origin_Default.f a0_0).bind fun t153 => (if a0_2 = t153 then (if a0_0.size + 3 ≤ 9223372036854775807 then (if (a0_0 ++ (⟨#[58, 47, 47]⟩ : ByteArray)).size + a0_1.size ≤ 9223372036854775807 then (some ((a0_0 ++ (⟨#[58, 47, 47]⟩ : ByteArray)) ++ a0_1)) else (none)) else (none)) else ((origin_Key.f k a0_0 a0_1 a0_2).bind fun t154 => (some t154)))) else ((origin_Key.f k a0_0 a0_1 a0_2).bind fun t155 => (some t155)))
theorem origin_Show.mono : ∀ a0 a1 a2 k, LeO (origin_Show.f k a0 a1 a2) (origin_Show.f (k + 1) a0 a1 a2) := by
 intro a0 a1 a2 k
 have hm0 := @origin_Check.mono; have hm1 := @origin_Key.mono; unfold origin_Show.f
 exact moE

def origin_Show.T1 : Bool × List (List Nat × List Nat) := (true, [([], []), ([0], [0]), ([1, 1], [1]), ([2], [2]), ([3, 2], [2, 3]), ([2], [2]), ([5, 2], [2, 5]), ([6, 2, 2], [2, 6]), ([4, 7, 2], [2, 4, 7]), ([2, 8], [2, 8])])
def origin_Show.B1 : List Nat := [0, 1, 3, 7, 15, 7, 39, 103, 255, 511]
theorem origin_Show.tab1 : rtab .any (opsOf Tryz.f59 1) = origin_Show.T1 := by kernel_rfl
theorem origin_Show.bits1 : waitsOk origin_Show.T1.2 origin_Show.B1 = true := by kernel_rfl
set_option maxHeartbeats 8000000 in
set_option maxRecDepth 100000 in
theorem origin_Show.calls (k : Nat) (a0_0 : ByteArray) (a0_1 : ByteArray) (a0_2 : Int) (r : ByteArray) (w : World) (hM_ : Aside0 (LaidW w)) (h : origin_Show.f k a0_0 a0_1 a0_2 = some r) :
  Calls Tryz.prog 59 #[.agg #[.string a0_0, .string a0_1, .int .i64 a0_2]] w fun e w' => e = .returned (.string r) ∧ Below w.heap.size w w' := by
 have hu70 := Tryz.underlying70
 have HB := Aside0.mk (Below.refl w.heap.size w)
 have H : ((origin_Check.f k a0_0 a0_1 a0_2).bind fun t1 => (if t1 = true then ((origin_Default.f a0_0).bind fun t2 => (if a0_2 = t2 then (if a0_0.size + 3 ≤ 9223372036854775807 then (if (a0_0 ++ (⟨#[58, 47, 47]⟩ : ByteArray)).size + a0_1.size ≤ 9223372036854775807 then (some ((a0_0 ++ (⟨#[58, 47, 47]⟩ : ByteArray)) ++ a0_1)) else (none)) else (none)) else ((origin_Key.f k a0_0 a0_1 a0_2).bind fun t3 => (some t3)))) else ((origin_Key.f k a0_0 a0_1 a0_2).bind fun t4 => (some t4)))) = some r := h
 clear h
 replace H := bd_ H; obtain ⟨t1, A1, H⟩ := H
 refine em_ (t1 = true) (fun c2 => ?g1p) (fun c2 => ?g1n)
 case' g1p =>
  subst c2
  replace H := ifT_ H
  replace H := bd_ H; obtain ⟨t2, A3, H⟩ := H
  refine em_ (a0_2 = t2) (fun c4 => ?g2p) (fun c4 => ?g2n)
  case' g2p =>
   rw [if_pos c4] at H
   have c4b0 : (a0_2 == t2) = true := beq_iff_eq.mpr c4
   have c4b1 : (a0_2 != t2) = false := bne_eq_false_iff_eq.mpr c4
   clear c4
   replace H := iteN_ H; obtain ⟨c5, H⟩ := H
   have c5b0 := eq_true c5
   have c5b1 : decide (a0_0.size + 3 ≤ 9223372036854775807) = true := decide_eq_true c5
   try have c5b2 : (9223372036854775807 < a0_0.size + 3) = False := eq_false (Nat.not_lt.2 c5)
   replace H := iteN_ H; obtain ⟨c6, H⟩ := H
   try (have c6b5 := c6; simp only [ByteArray.size_append, Int.natCast_add] at c6b5)
   have c6b0 := eq_true c6
   have c6b1 : decide ((a0_0 ++ (⟨#[58, 47, 47]⟩ : ByteArray)).size + a0_1.size ≤ 9223372036854775807) = true := decide_eq_true c6
   try have c6b2 : (9223372036854775807 < (a0_0 ++ (⟨#[58, 47, 47]⟩ : ByteArray)).size + a0_1.size) = False := eq_false (Nat.not_lt.2 c6)
   try have c6b3 : (9223372036854775807 < a0_0.size + 3 + a0_1.size) = False := eq_false (Nat.not_lt.2 (by have z_ := c6; simp only [ByteArray.size_append] at z_; first | exact z_ | simpa using z_))
   obtain rfl := si_ H
   have M3_0 := trivial
  case' g2n =>
   rw [if_neg c4] at H
   have c4b0 : (a0_2 == t2) = false := beq_eq_false_iff_ne.mpr c4
   have c4b1 : (a0_2 != t2) = true := bne_iff_ne.mpr c4
   replace H := bd_ H; obtain ⟨t3, A5, H⟩ := H
   obtain rfl := si_ H
   have M3_0 := trivial
 case' g1n =>
  replace c2 := Bool.eq_false_iff.mpr c2
  subst c2
  replace H := ifF_ H
  replace H := bd_ H; obtain ⟨t4, A3, H⟩ := H
  obtain rfl := si_ H
  have M3_1 := trivial
 all_goals
  go_enter Tryz.func59, Tryz.ntmps59
  try go_wp2_with (first | ((with_reducible refine gate_dst (N := 1) rfl ?_); refine bxE (N := 1) (cs := #[.string a0_0, .string a0_1, .int .i64 a0_2]) (t := 70) fun gb1a1 hg w1a2 hbox hb => ?_; obtain ⟨HB', BK1a1, GW1a1⟩ := bx_ bE hg hbox hb; have GE1a1 := GW1a1; clear HB hb hbox hg; have HB := HB'; clear HB'))
  have n0_ := Aside0.mk (blk_drew BK1a1.out)
  have n1_ := Aside0.mk (below_drew1 HB.out)
  clear BK1a1
  clear HB
  have BK1a1 := n0_
  have HB := n1_
  clear n0_ n1_
  refine start_ (n := 10) (S := fun w' => w'.cell? ⟨gb1a1, 0, none⟩ = some (.string a0_0) ∧ w'.cell? ⟨gb1a1, 1, none⟩ = some (.string a0_1) ∧ w'.cell? ⟨gb1a1, 2, none⟩ = some (.int .i64 a0_2)) (ds := []) (bz 10 0) (by kernel_rfl) rfl rfl (bkc3_ BK1a1) (fun hHeld => ?_); refine with_tabW origin_Show.tab1 origin_Show.bits1 (fun HT_ HW_ => ?_)
  generalize w1a2.drew = w11s1 at BK1a1 HB hHeld ⊢
  refine tA3 (i := 0) (N := some 3) (bz 10 1) (take_ofW HT_.out HW_.out (by kernel_rfl)) hHeld ?_
  refine one_ (i := 1) (N := some 4) (bz 10 3) rfl rfl (one_of HT_.out (by kernel_rfl)) (by decide) (fun K hK => ?_)
  refine gS Tryz.func98 #[.agg #[.string a0_0, .string a0_1, .int .i64 a0_2]] ?_
  first
  | clear M3_0
    with_reducible refine (origin_Check.calls k a0_0 a0_1 a0_2 true _ A1.out).mono ?_
    rintro e w16s1 ⟨rfl, hb⟩
    refine ⟨_, rfl, ?_⟩
    replace BK1a1 := kM BK1a1 hb; replace HB := bS bE hb; (try clear hb)
    refine hK.out _ _ (bkc3_ BK1a1) (fun hHeld => ?_)
    clear hK K
    refine nA 4 ?_
    refine pA (i := 2) (N := some 5) (bz 10 7) (any_of HT_.out (by kernel_rfl)) ?_
    refine pA (i := 3) (N := some 6) (bz 10 15) (any_of HT_.out (by kernel_rfl)) ?_
    refine pA (i := 5) (N := some 8) (bz 10 47) (any_of HT_.out (by kernel_rfl)) ?_
    refine tA3 (i := 4) (N := some 7) (bz 10 63) (take_ofW HT_.out HW_.out (by kernel_rfl)) hHeld ?_
    refine tA3 (i := 6) (N := some 9) (bz 10 127) (take_ofW HT_.out HW_.out (by kernel_rfl)) hHeld ?_
    refine one_ (i := 7) (N := some 10) (bz 10 255) rfl rfl (one_of HT_.out (by kernel_rfl)) (by decide) (fun K hK => ?_)
    refine gS Tryz.func96 #[.string a0_0] ?_
    with_reducible refine (origin_Default.calls a0_0 t2 _ A3.out).mono ?_
    rintro e w' ⟨rfl, ⟨nd, rfl⟩⟩
    refine ⟨_, rfl, ?_⟩
    refine hK.out _ _ (bkc3_ BK1a1) (fun hHeld => ?_)
    clear hK K
    refine nA 10 ?_
    refine pA (i := 8) (N := some 11) (bz 10 511) (any_of HT_.out (by kernel_rfl)) ?_
    refine pA (i := 9) (N := some 12) (bz 10 1023) (any_of HT_.out (by kernel_rfl)) ?_
    refine done_ (done_of HT_.out (by kernel_rfl)) ?_
    obtain ⟨z38s1_0, z38s1_1, z38s1_2, zf38s1_0, zf38s1_1, zf38s1_2⟩ := bk3_ BK1a1
    try go_wp2_with (first | ((with_reducible refine gate_callee (f := 66) rfl ?_); refine gL (some 20) Tryz.func66 #[.agg #[.string a0_0, .string a0_1, .int .i64 a0_2]] ?_; (with_reducible refine (origin_Key.calls k a0_0 a0_1 a0_2 _ _ ?side1 A5.out).mono ?_); (case side1 => exact ⟨lE⟩); rintro e w2a1 ⟨rfl, hb⟩; refine ⟨_, rfl, ?_⟩; replace BK1a1 := kM BK1a1 hb; replace HB := bS bE hb; (try clear hb)))
    go_ret
    exact ⟨rE, bE⟩
  | clear M3_1
    with_reducible refine (origin_Check.calls k a0_0 a0_1 a0_2 false _ A1.out).mono ?_
    rintro e w16s1 ⟨rfl, hb⟩
    refine ⟨_, rfl, ?_⟩
    replace BK1a1 := kM BK1a1 hb; replace HB := bS bE hb; (try clear hb)
    refine hK.out _ _ (bkc3_ BK1a1) (fun hHeld => ?_)
    clear hK K
    refine nA 4 ?_
    refine pA (i := 2) (N := some 5) (bz 10 7) (any_of HT_.out (by kernel_rfl)) ?_
    refine pU (i := 3) (N := some 6) (bz 10 15) (any_of HT_.out (by kernel_rfl)) ?_
    refine pU (i := 4) (N := some 7) (bz 10 31) (any_of HT_.out (by kernel_rfl)) ?_
    refine pU (i := 5) (N := some 8) (bz 10 63) (any_of HT_.out (by kernel_rfl)) ?_
    refine pU (i := 6) (N := some 9) (bz 10 127) (any_of HT_.out (by kernel_rfl)) ?_
    refine pU (i := 7) (N := some 10) (bz 10 255) (any_of HT_.out (by kernel_rfl)) ?_
    refine pU (i := 8) (N := some 11) (bz 10 511) (any_of HT_.out (by kernel_rfl)) ?_
    refine pA (i := 9) (N := some 12) (bz 10 1023) (any_of HT_.out (by kernel_rfl)) ?_
    refine done_ (done_of HT_.out (by kernel_rfl)) ?_
    obtain ⟨z31s1_0, z31s1_1, z31s1_2, zf31s1_0, zf31s1_1, zf31s1_2⟩ := bk3_ BK1a1
    try go_wp2_with (first | ((with_reducible refine gate_callee (f := 66) rfl ?_); refine gL (some 20) Tryz.func66 #[.agg #[.string a0_0, .string a0_1, .int .i64 a0_2]] ?_; (with_reducible refine (origin_Key.calls k a0_0 a0_1 a0_2 t4 _ ?side1 A3.out).mono ?_); (case side1 => exact ⟨lE⟩); rintro e w3a1 ⟨rfl, hb⟩; refine ⟨_, rfl, ?_⟩; replace BK1a1 := kM BK1a1 hb; replace HB := bS bE hb; (try clear hb)))
    go_ret
    exact ⟨rE, bE⟩

end Go.Proofs.YtfmajangcbgooaaGreatDoor.Pr
