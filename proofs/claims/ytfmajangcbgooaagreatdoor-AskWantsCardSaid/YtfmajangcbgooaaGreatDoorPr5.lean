import Derived.Test.YtfmajangcbgooaaGreatDoorPr0
import Derived.Test.YtfmajangcbgooaaGreatDoorK0
import Derived.Test.YtfmajangcbgooaaGreatDoorPr3
import Derived.Test.YtfmajangcbgooaaGreatDoorPr4
import Derived.Test.YtfmajangcbgooaaGreatDoorG2
import Derived.Test.YtfmajangcbgooaaGreatDoorG4
import Derived.Test.YtfmajangcbgooaaGreatDoorG5
import Derived.Test.YtfmajangcbgooaaGreatDoorG0
namespace Go.Proofs.YtfmajangcbgooaaGreatDoor.Pr
open Go.RowKit Go.Proofs.YtfmajangcbgooaaGreatDoorW.PrintWords Go.Proofs.YtfmajangcbgooaaGreatDoorW.PrintLast Go.Proofs.YtfmajangcbgooaaGreatDoorW.PrintMore
attribute [local go_sem] max2_int min2_int max_two min_two max_three min_three max_four min_four
set_option linter.unusedVariables false
set_option maxHeartbeats 64000000
set_option maxRecDepth 100000
set_option linter.unusedSimpArgs false
def target_Clean.l0 : Nat → List ByteArray → List ByteArray → List ByteArray → Int → Int → Option (ByteArray)
 | 0, _, _, _, _, _ => none
 | k + 1, e, c, b, d, a => if a < d then (if 0 ≤ a then (if a < (b.length : Int) then ((target_dots.f k (rdOf ByteArray.empty b a)).bind fun g => (if g = 0 then (if c.length < 8796093022208 then (target_Clean.l0 k e (c ++ [rdOf ByteArray.empty b a]) b d (wrap64 (a + 1))) else (none)) else (if g = 2 then (if 0 ≤ (mx (wrap64 ((c.length : Int) - 1)) 0) then (if (mx (wrap64 ((c.length : Int) - 1)) 0) ≤ (c.length : Int) then (target_Clean.l0 k e (c.take ((mx (wrap64 ((c.length : Int) - 1)) 0) : Int).toNat) b d (wrap64 (a + 1))) else (none)) else (none)) else (target_Clean.l0 k e c b d (wrap64 (a + 1)))))) else (none)) else (none)) else (if 0 ≤ (wrap64 ((e.length : Int) - 1)) then (if (wrap64 ((e.length : Int) - 1)) < (e.length : Int) then ((target_dots.f k (rdOf ByteArray.empty e (wrap64 ((e.length : Int) - 1)))).bind fun l => (if l > 0 then (if c.length < 8796093022208 then ((strings_Join.f (c ++ [(⟨#[]⟩ : ByteArray)]) (⟨#[47]⟩ : ByteArray)).bind fun i => (if 1 + i.size ≤ 9223372036854775807 then (some ((⟨#[47]⟩ : ByteArray) ++ i)) else (none))) else (none)) else ((strings_Join.f c (⟨#[47]⟩ : ByteArray)).bind fun j => (if 1 + j.size ≤ 9223372036854775807 then (some ((⟨#[47]⟩ : ByteArray) ++ j)) else (none))))) else (none)) else (none))
def target_Clean.f (k : Nat) (c : ByteArray) : Option (ByteArray) := (strings_TrimPrefix.f c (⟨#[47]⟩ : ByteArray)).bind fun b => ((strings_Split.f b (⟨#[47]⟩ : ByteArray)).bind fun a => (target_Clean.l0 k a ([] : List ByteArray) a (a.length : Int) 0))
theorem target_Clean.mono_l : ∀ k, (∀ a b c d e, LeO (target_Clean.l0 k a b c d e) (target_Clean.l0 (k + 1) a b c d e))
 | 0 => fun _ _ _ _ _ r h => by simp [target_Clean.l0] at h
 | k + 1 => by
  have ih0 := target_Clean.mono_l k
  ·intros
   have g := @target_dots.mono; unfold target_Clean.l0
   exact moE
theorem target_Clean.mono : ∀ a k, LeO (target_Clean.f k a) (target_Clean.f (k + 1) a) := by
 intro a k
 have ih0 := target_Clean.mono_l k
 have b := @target_dots.mono; unfold target_Clean.f
 exact moE
theorem target_Clean.calls (k : Nat) (a0 r : ByteArray) (w : World) (h : target_Clean.f k a0 = some r) :
  Calls Tryz.prog 93 #[.string a0] w fun e w' => e = .returned (.string r) ∧ Below w.heap.size w w' := by
 have HB := Aside0.mk (Below.refl w.heap.size w); have H := h; clear h; unfold target_Clean.f at H; replace H := bd_ H; obtain ⟨t1, A1, H⟩ := H; replace H := bd_ H; obtain ⟨g, A2, H⟩ := H; have H' := Aside0.mk H; clear H; go_enter Tryz.func93, Tryz.ntmps93; go_wp2_with (first | ((with_reducible refine gate_callee (f := 143) rfl ?_); refine gL _ Tryz.func143 _ ((strings_TrimPrefix.calls a0 (⟨#[47]⟩ : ByteArray) t1 _ A1.out).mono ?_); rintro e w' ⟨rfl, ⟨nd, rfl⟩⟩; refine ⟨_, rfl, ?_⟩) | ((with_reducible refine gate_callee (f := 142) rfl ?_); refine gL _ Tryz.func142 _ ((strings_Split.calls t1 (⟨#[47]⟩ : ByteArray) g _ A2.out).mono ?_); rintro e w2a1 ⟨v2a2, rfl, u, hb⟩; refine ⟨_, rfl, ?_⟩; have n0_ := Aside0.mk (Kd.R_lower u (below_size bE)); have n1_ := bS bE hb; clear HB; have o := n0_; have HB := n1_; clear n0_ n1_; (try clear hb); (try clear hb1); (try clear hk); (try clear hi); (try clear u); obtain ⟨n, d, X⟩ := Kd.R_slice o.out; subst X))
 go_loopg [4, 12] k (fun kq v ai w' => ∃ (c : List ByteArray) (a : Int), ai = .int .i64 a ∧ Aside0 (target_Clean.l0 kq g c g (g.length : Int) a = some r) ∧ Aside0 (kq ≤ k) ∧ Aside0 (Kd.R Kd.string 9 w' w.heap.size (fun k_ => some k_ ≠ (v : Value).ownBlock) (.slice n g.length d) g) ∧ Aside0 (Kd.R Kd.string 9 w' w.heap.size (fun k_ => some k_ ≠ ((.slice n g.length d) : Value).ownBlock ∧ some k_ ≠ ((.slice n g.length d) : Value).ownBlock) v c) ∧ Aside0 (Kd.R Kd.string 9 w' w.heap.size (fun k_ => some k_ ≠ (v : Value).ownBlock) (.slice n g.length d) g) ∧ Aside0 (Below w.heap.size w w'))
 case atStart => exact ⟨(([] : List ByteArray)), (0), rS, H', ⟨Nat.le_refl _⟩, ⟨by (with_reducible repeat (first | apply Kd.R_alloc | apply Kd.R_drewN | apply Kd.R_drew)); exact Kd.R_mono o.out (fun _ hk => (by simp [Value.ownBlock]))⟩, ⟨by first | exact Kd.R_nil _ _ _ _ _ | exact Kd.N_nil _ _ _ _ _ | exact Kd.V_nil _ _ _ _ _ | exact Kd.Q_nil _ _ _ _ _ | exact Kd.S_nil _ _ _ _ _⟩, ⟨by (with_reducible repeat (first | apply Kd.R_alloc | apply Kd.R_drewN | apply Kd.R_drew)); exact Kd.R_mono o.out (fun _ hk => (by simp [Value.ownBlock]))⟩, ⟨bE⟩⟩
 case round =>
  clear H'; obtain ⟨c, a, rfl, HA, I, HO_3, HO_4, HO_10, HB⟩ := hrel
  cases gk with
  | zero => exact absurd HA.out (by simp [target_Clean.l0])
  | succ k1 =>
   have H := HA.out; clear HA
   simp only [target_Clean.l0] at H
   revert H; refine iteDD_ (fun aj H => ?g1p) (fun aj H => ?g1n)
   case' g1p =>
    revert H; refine iteND_ fun c5b0 => iteND_ fun ak H => ?_; replace H := bd_ H; obtain ⟨t3, A7, H⟩ := H; revert H; refine iteEF_ (fun al am H => ?g2p) (fun c8 al am H => ?g2n)
    case' g2p =>
     revert H; refine iteNA_ fun an H => ?_
     try replace H := bsm_ H
     generalize K : (c ++ [rdOf ByteArray.empty g a]) = y10 at H; have ao := Aside0.mk K.symm; clear K; have H' := Aside0.mk H; clear H; have Y : 0 ≤ (a : Int) := of_decide_eq_true mE; have Z : a < (g.length : Int) := of_decide_eq_true mE; obtain ⟨L, e4, hx11_0⟩ := Kd.at_string (Kd.R_reads' HO_10.out).2.2 a Y Z
     cases e4
     replace Y := eq_true Y; replace Z := eq_true Z; have G6 := trivial; have x := trivial; have a1 := trivial
    case' g2n =>
     revert H; refine iteEF_ (fun y c9b1 H => ?g3p) (fun c9 y c9b1 H => ?g3n)
     case' g3p =>
      generalize z : (mx (wrap64 ((c.length : Int) - 1)) 0) = l at H; (try rw [z] at A7); have hji10_ : (if (wrap64 ((c.length : Int) - 1)) < 0 then 0 else (wrap64 ((c.length : Int) - 1))) = l := z; revert H; refine iteNT_ fun a2 a3 => iteNT_ fun c12b0 c12b1 H => ?_
      try replace H := bsm_ H
      generalize M : (c.take ((l) : Int).toNat) = y13 at H; have O := Aside0.mk M.symm; clear M; have H' := Aside0.mk H; clear H; have p : 0 ≤ (a : Int) := of_decide_eq_true mE; have q : a < (g.length : Int) := of_decide_eq_true mE; obtain ⟨A, e4, J⟩ := Kd.at_string (Kd.R_reads' HO_10.out).2.2 a p q
      cases e4
      replace p := eq_true p; replace q := eq_true q; have G5 := trivial; have x := trivial; have a4 := trivial
     case' g3n =>
      have H' := Aside0.mk H; clear H; have a5 : 0 ≤ (a : Int) := of_decide_eq_true mE; have a6 : a < (g.length : Int) := of_decide_eq_true mE; obtain ⟨ad10, e4, hx10_0⟩ := Kd.at_string (Kd.R_reads' HO_10.out).2.2 a a5 a6
      cases e4
      replace a5 := eq_true a5; replace a6 := eq_true a6; have G6 := trivial; have x := trivial; have a7 := trivial
   case' g1n =>
    generalize s : (wrap64 ((g.length : Int) - 1)) = j at H; have hji5w := (i64_w _).trans s; revert H; refine iteND_ fun ak => iteND_ fun c7b0 H => ?_; replace H := bd_ H; obtain ⟨t3, A8, H⟩ := H; revert H; refine iteGG_ (fun y H => ?g4p) (fun y H => ?g4n)
    case' g4p =>
     revert H; refine iteNA_ fun a8 H => ?_
     try replace H := bsm_ H
     generalize U : (c ++ [(⟨#[]⟩ : ByteArray)]) = y11 at H; have Ny11 := Aside0.mk U.symm; clear U; replace H := bd_ H; obtain ⟨t4, A12, H⟩ := H; revert H; refine iteNP_ fun a9 H => ?_; have c13b0 := eq_true a9; have c13b1 := decide_eq_true a9
     try have c13b2 : (9223372036854775807 < 1 + t4.size) = False := eq_false (Nat.not_lt.2 a9)
     obtain rfl := si_ H; have p : 0 ≤ ((j) : Int) := of_decide_eq_true mE; have q : (j) < (g.length : Int) := of_decide_eq_true mE; obtain ⟨A, e6, J⟩ := Kd.at_string (Kd.R_reads' HO_3.out).2.2 (j) p q
     cases e6
     replace p := eq_true p; replace q := eq_true q; have G8 := trivial; have W := trivial
    case' g4n =>
     replace H := bd_ H; obtain ⟨t5, A10, H⟩ := H; revert H; refine iteNP_ fun aa H => ?_; have a2 := eq_true aa; have a3 := decide_eq_true aa
     try have c11b2 : (9223372036854775807 < 1 + t5.size) = False := eq_false (Nat.not_lt.2 aa)
     obtain rfl := si_ H; have ab : 0 ≤ ((j) : Int) := of_decide_eq_true mE; have ac : (j) < (g.length : Int) := of_decide_eq_true mE; obtain ⟨ad12, e6, hx12_0⟩ := Kd.at_string (Kd.R_reads' HO_3.out).2.2 (j) ab ac
     cases e6
     replace ab := eq_true ab; replace ac := eq_true ac; have G7 := trivial; have W := trivial
   all_goals
    go_wp2_with (first | (have z_ := G5; clear z_; ((with_reducible refine gate_callee (f := 144) rfl ?_); refine gL _ Tryz.func144 _ ((target_dots.calls k1 (rdOf ByteArray.empty g a) _ _ A7.out).mono ?_); rintro e w3a1 ⟨rfl, hb⟩; refine ⟨_, rfl, ?_⟩; replace HO_3 := rM HO_3 hb; replace HO_4 := rM HO_4 hb; replace HO_10 := rM HO_10 hb; replace HB := bS bE hb; (try clear hb); obtain ⟨ad, ae, af⟩ := Kd.R_slice HO_4.out; subst af; have B : ((l) : Int) ≤ ((c.length : Int) : Int) := of_decide_eq_true mE; obtain ⟨i3a4, hi3a4, _, hsz3a5, _⟩ := info_parts info9; have hcut3a5 := cut_to (P := Tryz.prog) 39 9 .i64 Tryz.underlying39 hi3a4 ad c.length ae (l) (of_decide_eq_true mE) B (Kd.R_reads' HO_4.out).2.1; have t := Kd.R_take (m := ((l) : Int).toNat) HO_4.out (by omega); have D : y13.length = ((l) : Int).toNat := (by rw [O.out, List.length_take]; omega); rw [← O.out] at t; rw [← D] at t hcut3a5; clear D hi3a4 hsz3a5 HO_4; have E := Aside0.mk t; clear t; replace B := eq_true B)) | (have z_ := G6; clear z_; ((with_reducible refine gate_callee (f := 144) rfl ?_); refine gL _ Tryz.func144 _ ((target_dots.calls k1 (rdOf ByteArray.empty g a) _ _ A7.out).mono ?_); rintro e w3a1 ⟨rfl, hb⟩; refine ⟨_, rfl, ?_⟩; replace HO_3 := rM HO_3 hb; replace HO_4 := rM HO_4 hb; replace HO_10 := rM HO_10 hb; replace HB := bS bE hb; (try clear hb))) | ((with_reducible refine gate_builtin (b := .append) (xs := #[.tmp 20, .tmp 22]) rfl ?_); at_builtin; refine Kd.R_append Kd.string (w0 := w) w.heap.size rfl (.tmp 20) (.tmp 22) 39 9 (.string ⟨#[]⟩) 16 rfl Tryz.underlying39 info9 rfl (by decide) (by omega) u4 c (rdOf ByteArray.empty g a) [.string (rdOf ByteArray.empty g a)] (fun k_ => some k_ ≠ (.slice (some L) g.length d : Value).ownBlock ∧ some k_ ≠ (.slice (some L) g.length d : Value).ownBlock) (fun _ => False) rfl rfl ?aP (fun _ hk => hk.elim) ?aF ?aO ?aB ?aS ?aL ?_; (case aP => exact rfl); (case aB => exact bE); (case aF => exact (fun k_ hk => ⟨Kd.fresh' (Kd.R_lt (rK HO_3.out)) k_ hk, Kd.fresh' (Kd.R_lt (rK HO_10.out)) k_ hk⟩)); (case aO => exact (rK HO_4.out)); (case aS => exact (below_size bE)); (case aL => have := an.out; omega); intro v4a1 w4a2 ho hb hg hat; rw [← ao.out] at ho; have n0_ := Aside0.mk (Kd.R_after (ok := (fun _ => True)) (rK (Kd.R_mono HO_3.out (fun _ hk => ⟨trivial, hk⟩))) hg hat); have n1_ := Aside0.mk (Kd.R_after (ok := (fun _ => True)) (rK (Kd.R_mono HO_10.out (fun _ hk => ⟨trivial, hk⟩))) hg hat); have n2_ := Aside0.mk (hb); have n3_ := Aside0.mk (ho); clear HO_3; clear HO_10; clear HB; clear HO_4; have HO_3 := n0_; have HO_10 := n1_; have HB := n2_; have G := n3_; clear n0_ n1_ n2_ n3_; clear ho hb hg hat) | (have z_ := G7; clear z_; ((with_reducible refine gate_callee (f := 144) rfl ?_); refine goesL_ (some 39) rfl rfl Tryz.func144 (by kernel_rfl) rfl #[.string (rdOf ByteArray.empty g (j))] rfl (by (try simp only [List.map_toArray, List.map_cons, List.map_nil]); first | done | (simp only [s]; rfl) | rfl | (simp only [List.length_drop, List.length_take]; rfl)) ?_; (with_reducible refine (target_dots.calls k1 (rdOf ByteArray.empty g (j)) _ _ A8.out).mono ?_); rintro e w5a1 ⟨rfl, hb⟩; refine ⟨_, rfl, ?_⟩; replace HO_3 := rM HO_3 hb; replace HO_4 := rM HO_4 hb; replace HO_10 := rM HO_10 hb; replace HB := bS bE hb; (try clear hb); obtain ⟨Ao5a2, co5a2, ag⟩ := Kd.R_slice HO_4.out; subst ag)) | (have z_ := G8; clear z_; ((with_reducible refine gate_callee (f := 144) rfl ?_); refine goesL_ (some 39) rfl rfl Tryz.func144 (by kernel_rfl) rfl #[.string (rdOf ByteArray.empty g (j))] rfl (by (try simp only [List.map_toArray, List.map_cons, List.map_nil]); first | done | (simp only [s]; rfl) | rfl | (simp only [List.length_drop, List.length_take]; rfl)) ?_; (with_reducible refine (target_dots.calls k1 (rdOf ByteArray.empty g (j)) _ _ A8.out).mono ?_); rintro e w5a1 ⟨rfl, hb⟩; refine ⟨_, rfl, ?_⟩; replace HO_3 := rM HO_3 hb; replace HO_4 := rM HO_4 hb; replace HO_10 := rM HO_10 hb; replace HB := bS bE hb; (try clear hb))) | ((with_reducible refine gate_builtin (b := .append) (xs := #[.tmp 41, .tmp 42]) rfl ?_); at_builtin; refine Kd.R_append Kd.string (w0 := w) w.heap.size rfl (.tmp 41) (.tmp 42) 39 9 (.string ⟨#[]⟩) 16 rfl Tryz.underlying39 info9 rfl (by decide) (by omega) u4 c (⟨#[]⟩ : ByteArray) [.string ⟨#[]⟩] (fun k_ => some k_ ≠ (.slice (some A) g.length d : Value).ownBlock ∧ some k_ ≠ (.slice (some A) g.length d : Value).ownBlock) (fun _ => False) rfl rfl ?aP (fun _ hk => hk.elim) ?aF ?aO ?aB ?aS ?aL ?_; (case aP => exact rfl); (case aB => exact bE); (case aF => exact (fun k_ hk => ⟨Kd.fresh' (Kd.R_lt (rK HO_3.out)) k_ hk, Kd.fresh' (Kd.R_lt (rK HO_10.out)) k_ hk⟩)); (case aO => exact (rK HO_4.out)); (case aS => exact (below_size bE)); (case aL => have := a8.out; omega); intro v6a1 w6a2 ho hb hg hat; rw [← Ny11.out] at ho; have n0_ := Aside0.mk (Kd.R_after (ok := (fun _ => True)) (rK (Kd.R_mono HO_3.out (fun _ hk => ⟨trivial, hk⟩))) hg hat); have n1_ := Aside0.mk (Kd.R_after (ok := (fun _ => True)) (rK (Kd.R_mono HO_10.out (fun _ hk => ⟨trivial, hk⟩))) hg hat); have n2_ := Aside0.mk (hb); have n3_ := Aside0.mk (ho); clear HO_3; clear HO_10; clear HB; clear HO_4; have HO_3 := n0_; have HO_10 := n1_; have HB := n2_; have i := n3_; clear n0_ n1_ n2_ n3_; clear ho hb hg hat; obtain ⟨Ao6a4, co6a4, ah⟩ := Kd.R_slice i.out; subst ah) | ((with_reducible refine gate_callee (f := 68) rfl ?_); refine gL _ Tryz.func68 _ ((strings_Join.calls _ _ y11 (⟨#[47]⟩ : ByteArray) t4 _ ?side1 ?side2 A12.out).mono ?_); (case side1 => repeat (first | exact (Kd.R_reads' i.out).2.2 | (with_reducible refine Kd.C_alloc ?_ _) | (with_reducible refine Kd.C_drewN ?_ _) | (with_reducible refine Kd.C_drew ?_))); (case side2 => exact (Kd.R_reads' i.out).2.1); rintro e w7a1 ⟨rfl, hb⟩; refine ⟨_, rfl, ?_⟩; replace HO_3 := rM HO_3 hb; replace HO_10 := rM HO_10 hb; replace i := rM i hb; replace HB := bS bE hb; (try clear hb)) | ((with_reducible refine gate_callee (f := 68) rfl ?_); refine gL _ Tryz.func68 _ ((strings_Join.calls _ _ c (⟨#[47]⟩ : ByteArray) t5 _ ?side1 ?side2 A10.out).mono ?_); (case side1 => repeat (first | exact (Kd.R_reads' HO_4.out).2.2 | (with_reducible refine Kd.C_alloc ?_ _) | (with_reducible refine Kd.C_drewN ?_ _) | (with_reducible refine Kd.C_drew ?_))); (case side2 => exact (Kd.R_reads' HO_4.out).2.1); rintro e w8a1 ⟨rfl, hb⟩; refine ⟨_, rfl, ?_⟩; replace HO_3 := rM HO_3 hb; replace HO_4 := rM HO_4 hb; replace HO_10 := rM HO_10 hb; replace HB := bS bE hb; (try clear hb)))
    first
    | clear x
      go_roundg k1
      case measure => have := I.out; omega
      first
      | clear a1
        case rel => exact ⟨(y10), (wrap64 (a + 1)), rS, H', ⟨by have := I.out; omega⟩, ⟨rK (Kd.R_mono HO_3.out (fun _ hk => hk.2))⟩, ⟨by first | exact rK G.out | exact rK (Kd.R_mono G.out (fun k_ h_ e_ => h_ (e_.trans (own_len _ _ _ _))))⟩, ⟨rK (Kd.R_mono HO_10.out (fun _ hk => hk.2))⟩, ⟨bE⟩⟩
      | clear a4
        case rel => exact ⟨(y13), (wrap64 (a + 1)), rS, H', ⟨by have := I.out; omega⟩, ⟨by first | exact rK HO_3.out | exact rK (Kd.R_mono HO_3.out (fun k_ h_ e_ => h_ (e_.trans (own_len _ _ _ _))))⟩, ⟨by first | exact rK E.out | exact rK (Kd.R_mono E.out (fun k_ h_ e_ => h_ (e_.trans (own_len _ _ _ _))))⟩, ⟨by first | exact rK HO_10.out | exact rK (Kd.R_mono HO_10.out (fun k_ h_ e_ => h_ (e_.trans (own_len _ _ _ _))))⟩, ⟨bE⟩⟩
      | clear a7
        case rel => exact ⟨(c), (wrap64 (a + 1)), rS, H', ⟨by have := I.out; omega⟩, ⟨by first | exact rK HO_3.out | exact rK (Kd.R_mono HO_3.out (fun k_ h_ e_ => h_ (e_.trans (own_len _ _ _ _))))⟩, ⟨by first | exact rK HO_4.out | exact rK (Kd.R_mono HO_4.out (fun k_ h_ e_ => h_ (e_.trans (own_len _ _ _ _))))⟩, ⟨by first | exact rK HO_10.out | exact rK (Kd.R_mono HO_10.out (fun k_ h_ e_ => h_ (e_.trans (own_len _ _ _ _))))⟩, ⟨bE⟩⟩
    | clear W
      go_ret; exact ⟨by first | rfl | (simp [errW_none, errW_some] <;> rfl) | (simp only [← s]; first | rfl | (simp [errW_none, errW_some] <;> rfl)) | (simp [*, errW_none, errW_some] <;> rfl), bE⟩
def origin_Key.f (k : Nat) (a b : ByteArray) (c : Int) : Option (ByteArray) := (origin_Check.f k a b c).bind fun e => (if e = true then (if a.size + 3 ≤ 9223372036854775807 then (if (a ++ (⟨#[58, 47, 47]⟩ : ByteArray)).size + b.size ≤ 9223372036854775807 then (if ((a ++ (⟨#[58, 47, 47]⟩ : ByteArray)) ++ b).size + 1 ≤ 9223372036854775807 then ((strconv_Itoa.f c).bind fun d => (if (((a ++ (⟨#[58, 47, 47]⟩ : ByteArray)) ++ b) ++ (⟨#[58]⟩ : ByteArray)).size + d.size ≤ 9223372036854775807 then (some ((((a ++ (⟨#[58, 47, 47]⟩ : ByteArray)) ++ b) ++ (⟨#[58]⟩ : ByteArray)) ++ d)) else (none))) else (none)) else (none)) else (none)) else (some (⟨#[]⟩ : ByteArray)))
theorem origin_Key.mono : ∀ a b c k, LeO (origin_Key.f k a b c) (origin_Key.f (k + 1) a b c) := by
 intro a b c k
 have d := @origin_Check.mono; unfold origin_Key.f
 exact moE
def origin_Key.T3 : Bool × List (List Nat × List Nat) := (true, [([], []), ([0], [0]), ([1], [1]), ([], []), ([3], [3]), ([2, 4], [2, 4]), ([5], [5]), ([], []), ([7], [7]), ([8], [8]), ([6, 9], [6, 9]), ([10, 9, 0, 1, 2, 3, 4, 5, 6, 7, 8, 9, 10], [10])])
def origin_Key.B3 : List Nat := [0, 1, 3, 0, 8, 31, 63, 0, 128, 384, 1023, 2047]
theorem origin_Key.tab3 : rtab .any (opsOf Tryz.f66 3) = origin_Key.T3 := by kernel_rfl
theorem origin_Key.bits3 : waitsOk origin_Key.T3.2 origin_Key.B3 = true := by kernel_rfl
theorem origin_Key.calls (k : Nat) (b c : ByteArray) (d : Int) (r : ByteArray) (w : World) (hM_ : Aside0 (LaidW w)) (h : origin_Key.f k b c d = some r) :
  Calls Tryz.prog 66 #[.agg #[.string b, .string c, .int .i64 d]] w fun e w' => e = .returned (.string r) ∧ Below w.heap.size w w' := by
 have O := Tryz.underlying70; have HB := Aside0.mk (Below.refl w.heap.size w); have H := h; clear h; unfold origin_Key.f at H; replace H := bd_ H; obtain ⟨t1, A1, H⟩ := H; revert H; refine iteB_ (fun E H => ?g1p) (fun E H => ?g1n)
 case' g1p =>
  subst E; revert H; refine iteNP_ fun G H => ?_; have U := eq_true G; have W := decide_eq_true G
  try have X : (9223372036854775807 < b.size + 3) = False := eq_false (Nat.not_lt.2 G)
  revert H; refine iteNP_ fun j H => ?_
  try (have l := j; simp only [ByteArray.size_append, Int.natCast_add] at l)
  have Y := eq_true j; have Z := decide_eq_true j
  try have a0 : (9223372036854775807 < (b ++ (⟨#[58, 47, 47]⟩ : ByteArray)).size + c.size) = False := eq_false (Nat.not_lt.2 j)
  try have a1 : (9223372036854775807 < b.size + 3 + c.size) = False := eq_false (Nat.not_lt.2 (by have z_ := j; simp only [ByteArray.size_append] at z_; first | exact z_ | simpa using z_))
  revert H; refine iteNP_ fun m H => ?_
  try (have o := m; simp only [ByteArray.size_append, Int.natCast_add] at o)
  have a2 := eq_true m; have a3 := decide_eq_true m
  try have a4 : (9223372036854775807 < ((b ++ (⟨#[58, 47, 47]⟩ : ByteArray)) ++ c).size + 1) = False := eq_false (Nat.not_lt.2 m)
  try have a5 : (9223372036854775807 < b.size + 3 + c.size + 1) = False := eq_false (Nat.not_lt.2 (by have z_ := m; simp only [ByteArray.size_append] at z_; first | exact z_ | simpa using z_))
  replace H := bd_ H; obtain ⟨I, A6, H⟩ := H; revert H; refine iteNP_ fun p H => ?_
  try (have q := p; simp only [ByteArray.size_append, Int.natCast_add] at q)
  have a6 := eq_true p; have a7 := decide_eq_true p
  try have a8 : (9223372036854775807 < (((b ++ (⟨#[58, 47, 47]⟩ : ByteArray)) ++ c) ++ (⟨#[58]⟩ : ByteArray)).size + I.size) = False := eq_false (Nat.not_lt.2 p)
  try have a9 : (9223372036854775807 < b.size + 3 + c.size + 1 + I.size) = False := eq_false (Nat.not_lt.2 (by have z_ := p; simp only [ByteArray.size_append] at z_; first | exact z_ | simpa using z_))
  obtain rfl := si_ H; have s := trivial
 case' g1n =>
  subst E; obtain rfl := si_ H; have u := trivial
 all_goals
  go_enter Tryz.func66, Tryz.ntmps66
  try go_wp2_with (first | ((with_reducible refine gate_dst (N := 1) rfl ?_); refine bxE (N := 1) (cs := #[.string b, .string c, .int .i64 d]) (t := 70) fun g hg aa hbox hb => ?_; obtain ⟨HB', a, i⟩ := bx_ bE hg hbox hb; have J := i; clear HB hb hbox hg; have HB := HB'; clear HB'; obtain ⟨A, B, D, v, x, y⟩ := bk3_ a) | ((with_reducible refine gate_callee (f := 98) rfl ?_); refine gL _ Tryz.func98 _ ((origin_Check.calls k b c d _ _ A1.out).mono ?_); rintro e z ⟨rfl, hb⟩; refine ⟨_, rfl, ?_⟩; replace a := kM a hb; replace HB := bS bE hb; (try clear hb)))
  first
  | clear s
    have n0_ := Aside0.mk (blk_drew a.out); have n1_ := Aside0.mk (below_drew1 HB.out); clear a; clear HB; have a := n0_; have HB := n1_; clear n0_ n1_; refine start_ (n := 12) (S := fun w' => w'.cell? ⟨g, 0, none⟩ = some (.string b) ∧ w'.cell? ⟨g, 1, none⟩ = some (.string c) ∧ w'.cell? ⟨g, 2, none⟩ = some (.int .i64 d)) (ds := []) (bz 12 0) (by kernel_rfl) rfl rfl (bkc3_ a) (fun hHeld => ?_); refine with_tabW origin_Key.tab3 origin_Key.bits3 (fun HT_ HW_ => ?_); generalize z.drew = L at a HB hHeld ⊢; refine qA 0 6 12 1 ?_; refine qA 3 9 12 9 ?_; refine qA 7 13 12 137 ?_; refine tA3 1 7 12 139 ?_; refine qA 2 8 12 143 ?_; refine tA3 4 10 12 159 ?_; refine qA 5 11 12 191 ?_; refine qA 6 12 12 255 ?_; refine tA3 8 14 12 511 ?_; refine oB 9 15 12 1023 fun K hK => ?_; refine gS Tryz.func124 #[.int .i64 d] ?_
    with_reducible refine (strconv_Itoa.calls d I _ ?side1 A6.out).mono ?_
    (case side1 => exact ⟨lE⟩); rintro e M ⟨rfl, hb⟩; refine ⟨_, rfl, ?_⟩; replace a := kM a hb; replace HB := bS bE hb; (try clear hb); refine hK.out _ _ (bkc3_ a) (fun hHeld => ?_); clear hK K; refine nA 15 ?_; refine qA 10 16 12 2047 ?_; refine qA 11 2 12 4095 ?_; refine done_ (done_of HT_.out (by kernel_rfl)) ?_
    try go_wp2
    go_ret; exact ⟨rE, bE⟩
  | clear u
    go_ret; exact ⟨rE, bE⟩
def origin_Show.f (k : Nat) (a b : ByteArray) (c : Int) : Option (ByteArray) := (origin_Check.f k a b c).bind fun d => (if d = true then ((origin_Default.f a).bind fun e => (if c = e then (if a.size + 3 ≤ 9223372036854775807 then (if (a ++ (⟨#[58, 47, 47]⟩ : ByteArray)).size + b.size ≤ 9223372036854775807 then (some ((a ++ (⟨#[58, 47, 47]⟩ : ByteArray)) ++ b)) else (none)) else (none)) else ((origin_Key.f k a b c).bind fun g => (some g)))) else ((origin_Key.f k a b c).bind fun i => (some i)))
theorem origin_Show.mono : ∀ a b c k, LeO (origin_Show.f k a b c) (origin_Show.f (k + 1) a b c) := by
 intro a b c k
 have d := @origin_Check.mono; have e := @origin_Key.mono; unfold origin_Show.f
 exact moE
def origin_Show.T1 : Bool × List (List Nat × List Nat) := (true, [([], []), ([0], [0]), ([1, 1], [1]), ([2], [2]), ([3, 2], [2, 3]), ([2], [2]), ([5, 2], [2, 5]), ([6, 2, 2], [2, 6]), ([4, 7, 2], [2, 4, 7]), ([2, 8], [2, 8])])
def origin_Show.B1 : List Nat := [0, 1, 3, 7, 15, 7, 39, 103, 255, 511]
theorem origin_Show.tab1 : rtab .any (opsOf Tryz.f59 1) = origin_Show.T1 := by kernel_rfl
theorem origin_Show.bits1 : waitsOk origin_Show.T1.2 origin_Show.B1 = true := by kernel_rfl
theorem origin_Show.calls (k : Nat) (b c : ByteArray) (d : Int) (r : ByteArray) (w : World) (hM_ : Aside0 (LaidW w)) (h : origin_Show.f k b c d = some r) :
  Calls Tryz.prog 59 #[.agg #[.string b, .string c, .int .i64 d]] w fun e w' => e = .returned (.string r) ∧ Below w.heap.size w w' := by
 have Y := Tryz.underlying70; have HB := Aside0.mk (Below.refl w.heap.size w); have H := h; clear h; unfold origin_Show.f at H; replace H := bd_ H; obtain ⟨t1, Z, H⟩ := H; revert H; refine iteB_ (fun M H => ?g1p) (fun M H => ?g1n)
 case' g1p =>
  subst M; replace H := bd_ H; obtain ⟨t2, O, H⟩ := H; revert H; refine iteEF_ (fun v x H => ?g2p) (fun c4 v x H => ?g2n)
  case' g2p =>
   revert H; refine iteNP_ fun U H => ?_; have a0 := eq_true U; have a1 := decide_eq_true U
   try have a2 : (9223372036854775807 < b.size + 3) = False := eq_false (Nat.not_lt.2 U)
   revert H; refine iteNP_ fun y H => ?_
   try (have z := y; simp only [ByteArray.size_append, Int.natCast_add] at z)
   have a3 := eq_true y; have a4 := decide_eq_true y
   try have a5 : (9223372036854775807 < (b ++ (⟨#[58, 47, 47]⟩ : ByteArray)).size + c.size) = False := eq_false (Nat.not_lt.2 y)
   try have a6 : (9223372036854775807 < b.size + 3 + c.size) = False := eq_false (Nat.not_lt.2 (by have z_ := y; simp only [ByteArray.size_append] at z_; first | exact z_ | simpa using z_))
   obtain rfl := si_ H; have i := trivial
  case' g2n =>
   replace H := bd_ H; obtain ⟨t3, A5, H⟩ := H; obtain rfl := si_ H; have i := trivial
 case' g1n =>
  subst M; replace H := bd_ H; obtain ⟨t4, O, H⟩ := H; obtain rfl := si_ H; have A := trivial
 all_goals
  go_enter Tryz.func59, Tryz.ntmps59
  try go_wp2_with (first | ((with_reducible refine gate_dst (N := 1) rfl ?_); refine bxE (N := 1) (cs := #[.string b, .string c, .int .i64 d]) (t := 70) fun g hg B hbox hb => ?_; obtain ⟨HB', a, j⟩ := bx_ bE hg hbox hb; have W := j; clear HB hb hbox hg; have HB := HB'; clear HB'))
  have n0_ := Aside0.mk (blk_drew a.out); have n1_ := Aside0.mk (below_drew1 HB.out); clear a; clear HB; have a := n0_; have HB := n1_; clear n0_ n1_; refine start_ (n := 10) (S := fun w' => w'.cell? ⟨g, 0, none⟩ = some (.string b) ∧ w'.cell? ⟨g, 1, none⟩ = some (.string c) ∧ w'.cell? ⟨g, 2, none⟩ = some (.int .i64 d)) (ds := []) (bz 10 0) (by kernel_rfl) rfl rfl (bkc3_ a) (fun hHeld => ?_); refine with_tabW origin_Show.tab1 origin_Show.bits1 (fun HT_ HW_ => ?_); generalize B.drew = X at a HB hHeld ⊢; refine tA3 0 3 10 1 ?_; refine oB 1 4 10 3 fun K hK => ?_; refine gS Tryz.func98 #[.agg #[.string b, .string c, .int .i64 d]] ?_
  first
  | clear i
    with_reducible refine (origin_Check.calls k b c d true _ Z.out).mono ?_
    rintro e l ⟨rfl, hb⟩; refine ⟨_, rfl, ?_⟩; replace a := kM a hb; replace HB := bS bE hb; (try clear hb); refine hK.out _ _ (bkc3_ a) (fun hHeld => ?_); clear hK K; refine nA 4 ?_; refine qA 2 5 10 7 ?_; refine qA 3 6 10 15 ?_; refine qA 5 8 10 47 ?_; refine tA3 4 7 10 63 ?_; refine tA3 6 9 10 127 ?_; refine oB 7 10 10 255 fun K hK => ?_; refine gS Tryz.func96 #[.string b] ?_
    with_reducible refine (origin_Default.calls b t2 _ O.out).mono ?_
    rintro e w' ⟨rfl, ⟨nd, rfl⟩⟩; refine ⟨_, rfl, ?_⟩; refine hK.out _ _ (bkc3_ a) (fun hHeld => ?_); clear hK K; refine nA 10 ?_; refine qA 8 11 10 511 ?_; refine qA 9 12 10 1023 ?_; refine done_ (done_of HT_.out (by kernel_rfl)) ?_; obtain ⟨D, E, G, m, o, p⟩ := bk3_ a
    try go_wp2_with (first | ((with_reducible refine gate_callee (f := 66) rfl ?_); refine gL _ Tryz.func66 _ ((origin_Key.calls k b c d _ _ ?side1 A5.out).mono ?_); (case side1 => exact ⟨lE⟩); rintro e a7 ⟨rfl, hb⟩; refine ⟨_, rfl, ?_⟩; replace a := kM a hb; replace HB := bS bE hb; (try clear hb)))
    go_ret; exact ⟨rE, bE⟩
  | clear A
    with_reducible refine (origin_Check.calls k b c d false _ Z.out).mono ?_
    rintro e l ⟨rfl, hb⟩; refine ⟨_, rfl, ?_⟩; replace a := kM a hb; replace HB := bS bE hb; (try clear hb); refine hK.out _ _ (bkc3_ a) (fun hHeld => ?_); clear hK K; refine nA 4 ?_; refine qA 2 5 10 7 ?_; refine qU 3 6 10 15 ?_; refine qU 4 7 10 31 ?_; refine qU 5 8 10 63 ?_; refine qU 6 9 10 127 ?_; refine qU 7 10 10 255 ?_; refine qU 8 11 10 511 ?_; refine qA 9 12 10 1023 ?_; refine done_ (done_of HT_.out (by kernel_rfl)) ?_; obtain ⟨I, J, L, q, s, u⟩ := bk3_ a
    try go_wp2_with (first | ((with_reducible refine gate_callee (f := 66) rfl ?_); refine gL _ Tryz.func66 _ ((origin_Key.calls k b c d t4 _ ?side1 O.out).mono ?_); (case side1 => exact ⟨lE⟩); rintro e a8 ⟨rfl, hb⟩; refine ⟨_, rfl, ?_⟩; replace a := kM a hb; replace HB := bS bE hb; (try clear hb)))
    go_ret; exact ⟨rE, bE⟩
end Go.Proofs.YtfmajangcbgooaaGreatDoor.Pr
