import Derived.Test.YtfmajangcbgooaaGreatDoorPr0
import Derived.Test.YtfmajangcbgooaaGreatDoorK0
import Derived.Test.YtfmajangcbgooaaGreatDoorPr3
import Derived.Test.YtfmajangcbgooaaGreatDoorPr9
import Derived.Test.YtfmajangcbgooaaGreatDoorPr15
import Derived.Test.YtfmajangcbgooaaGreatDoorG1
import Derived.Test.YtfmajangcbgooaaGreatDoorG7
namespace Go.Proofs.YtfmajangcbgooaaGreatDoor.Pr
open Go.RowKit Go.Proofs.YtfmajangcbgooaaGreatDoorW.PrintWords Go.Proofs.YtfmajangcbgooaaGreatDoorW.PrintLast Go.Proofs.YtfmajangcbgooaaGreatDoorW.PrintMore
attribute [local go_sem] max2_int min2_int max_two min_two max_three min_three max_four min_four
set_option linter.unusedVariables false
set_option maxHeartbeats 64000000
set_option maxRecDepth 100000
set_option linter.unusedSimpArgs false
def allow_tokens.l0 : Nat → List ByteArray → List ByteArray → Int → Int → Option (List ByteArray × Bool)
 | 0, _, _, _, _ => none
 | k + 1, e, b, c, a => if a < c then (if 0 ≤ a then (if a < (b.length : Int) then ((octet_Token.f k (rdOf ByteArray.empty b a)).bind fun d => (if d = true then (allow_tokens.l0 k e b c (wrap64 (a + 1))) else (some (([] : List ByteArray), false)))) else (none)) else (none)) else (some (e, true))
def allow_tokens.f (k : Nat) (l0 : List (S28)) (c : ByteArray) : Option (List ByteArray × Bool) := (header_Get.f k l0 c).bind fun b => ((octet_Split.f k b.1).bind fun a => (allow_tokens.l0 k a a (a.length : Int) 0))
theorem allow_tokens.mono_l : ∀ k, (∀ a b c d, LeO (allow_tokens.l0 k a b c d) (allow_tokens.l0 (k + 1) a b c d))
 | 0 => fun _ _ _ _ r h => by simp [allow_tokens.l0] at h
 | k + 1 => by
  have ih0 := allow_tokens.mono_l k
  ·intros
   have e := @header_Get.mono; have g := @octet_Split.mono; have i := @octet_Token.mono; unfold allow_tokens.l0
   exact moE
theorem allow_tokens.mono : ∀ a b k, LeO (allow_tokens.f k a b) (allow_tokens.f (k + 1) a b) := by
 intro a b k
 have ih0 := allow_tokens.mono_l k
 have c := @header_Get.mono; have d := @octet_Split.mono; have e := @octet_Token.mono; unfold allow_tokens.f
 exact moE
theorem allow_tokens.calls (k : Nat) (M : Option Addr) (O : Nat) (l0 : List (S28)) (D : ByteArray) (A : List ByteArray) (B : Bool) (w : World) (p : Kd.C k28 w M l0.length l0) (q : l0.length ≤ O) (h : allow_tokens.f k l0 D = some (A, B)) :
  Calls Tryz.prog 128 #[.slice M l0.length O, .string D] w fun e w' => ∃ r : Value, e = .returned (.tuple #[r, .bool B]) ∧ Kd.R Kd.string 9 w' w.heap.size (fun _ => True) r A ∧ Below w.heap.size w w' := by
 have E := Aside0.mk p; have G := Aside0.mk q; clear p q; have HB := Aside0.mk (Below.refl w.heap.size w); have H := h; clear h; unfold allow_tokens.f at H; replace H := bd_ H; obtain ⟨⟨I, t3⟩, A2, H⟩ := H; replace H : ((octet_Split.f k I).bind fun b => (allow_tokens.l0 k b b (b.length : Int) 0)) = some (A, B) := H; replace H := bd_ H; obtain ⟨b, A3, H⟩ := H; have H' := Aside0.mk H; clear H; go_enter Tryz.func128, Tryz.ntmps128; go_wp2_with (first | ((with_reducible refine gate_callee (f := 40) rfl ?_); refine gL _ Tryz.func40 _ ((header_Get.calls k _ _ l0 D I t3 _ ?side1 ?side2 A2.out).mono ?_); (case side1 => repeat (first | exact E.out | (with_reducible refine Kd.C_alloc ?_ _) | (with_reducible refine Kd.C_drewN ?_ _) | (with_reducible refine Kd.C_drew ?_))); (case side2 => exact G.out); rintro e U ⟨rfl, hb⟩; refine ⟨_, rfl, ?_⟩; replace HB := bS bE hb; (try clear hb)) | ((with_reducible refine gate_callee (f := 169) rfl ?_); refine gL _ Tryz.func169 _ ((octet_Split.calls k I b _ A3.out).mono ?_); rintro e W ⟨X, rfl, i, hb⟩; refine ⟨_, rfl, ?_⟩; have n0_ := Aside0.mk (Kd.R_lower i (below_size bE)); have n1_ := bS bE hb; clear HB; have c := n0_; have HB := n1_; clear n0_ n1_; (try clear hb); (try clear J); (try clear hk); (try clear hi); (try clear i); obtain ⟨j, l, o⟩ := Kd.R_slice c.out; subst o))
 go_loopg [21] k (fun kq s w' => ∃ (a : Int), s = .int .i64 a ∧ Aside0 (allow_tokens.l0 kq b b (b.length : Int) a = some (A, B)) ∧ Aside0 (kq ≤ k) ∧ Aside0 (Kd.R Kd.string 9 w' w.heap.size (fun _ => True) (.slice j b.length l) b) ∧ Aside0 (Kd.R Kd.string 9 w' w.heap.size (fun _ => True) (.slice j b.length l) b) ∧ Aside0 (Below w.heap.size w w'))
 case atStart => exact ⟨(0), rS, H', ⟨Nat.le_refl _⟩, ⟨by (with_reducible repeat (first | apply Kd.R_alloc | apply Kd.R_drewN | apply Kd.R_drew)); exact c.out⟩, ⟨by (with_reducible repeat (first | apply Kd.R_alloc | apply Kd.R_drewN | apply Kd.R_drew)); exact c.out⟩, ⟨bE⟩⟩
 case round =>
  clear H'; obtain ⟨a, rfl, HA, t, HO_8, HO_19, HB⟩ := hrel
  cases gk with
  | zero => exact absurd HA.out (by simp [allow_tokens.l0])
  | succ k1 =>
   have H := HA.out; clear HA
   simp only [allow_tokens.l0] at H
   revert H; refine iteDD_ (fun u H => ?g1p) (fun u H => ?g1n)
   case' g1p =>
    revert H; refine iteND_ fun Y => iteND_ fun Z H => ?_; replace H := bd_ H; obtain ⟨t4, A8, H⟩ := H; revert H; refine iteB_ (fun K H => ?g2p) (fun K H => ?g2n)
    case' g2p =>
     subst K; have H' := Aside0.mk H; clear H; have d : 0 ≤ (a : Int) := of_decide_eq_true mE; have g : a < (b.length : Int) := of_decide_eq_true mE; obtain ⟨v, L, m⟩ := Kd.at_string (Kd.R_reads' HO_19.out).2.2 a d g
     cases L
     replace d := eq_true d; replace g := eq_true g; have x := trivial
    case' g2n =>
     subst K
     simp only [Option.some.injEq, Prod.mk.injEq] at H
     obtain ⟨rfl, rfl⟩ := H; have d : 0 ≤ (a : Int) := of_decide_eq_true mE; have g : a < (b.length : Int) := of_decide_eq_true mE; obtain ⟨v, L, m⟩ := Kd.at_string (Kd.R_reads' HO_19.out).2.2 a d g
     cases L
     replace d := eq_true d; replace g := eq_true g; have n := trivial; have y := trivial
   case' g1n =>
    simp only [Option.some.injEq, Prod.mk.injEq] at H
    obtain ⟨rfl, rfl⟩ := H; have n := trivial; have z := trivial
   all_goals
    go_wp2_with (first | ((with_reducible refine gate_callee (f := 146) rfl ?_); refine gL _ Tryz.func146 _ ((octet_Token.calls k1 (rdOf ByteArray.empty b a) _ _ A8.out).mono ?_); rintro e w' ⟨rfl, ⟨nd, rfl⟩⟩; refine ⟨_, rfl, ?_⟩))
    first
    | clear x
      go_roundg k1
      case measure => have := t.out; omega
      case rel => exact ⟨(wrap64 (a + 1)), rS, H', ⟨by have := t.out; omega⟩, ⟨by (with_reducible repeat (first | apply Kd.R_alloc | apply Kd.R_drewN | apply Kd.R_drew)); exact HO_8.out⟩, ⟨by (with_reducible repeat (first | apply Kd.R_alloc | apply Kd.R_drewN | apply Kd.R_drew)); exact HO_19.out⟩, ⟨bE⟩⟩
    | clear n
      go_ret2
      first
      | clear y
        exact ⟨_, rE, by first | exact Kd.R_nil _ _ _ _ _ | exact Kd.N_nil _ _ _ _ _ | exact Kd.V_nil _ _ _ _ _ | exact Kd.Q_nil _ _ _ _ _ | exact Kd.S_nil _ _ _ _ _, bE⟩
      | clear z
        exact ⟨_, rE, by (with_reducible repeat (first | apply Kd.R_alloc | apply Kd.R_drewN | apply Kd.R_drew)); exact HO_8.out, bE⟩
def allow_Read.l0 : Nat → List (S28) → List ByteArray → List ByteArray → Int → Int → Option (List ByteArray × List ByteArray × Int × Int)
 | 0, _, _, _, _, _ => none
 | k + 1, l, d, b, g, a => if a < g then (if 0 ≤ a then (if a < (b.length : Int) then ((octet_Lower.f (rdOf ByteArray.empty b a)).bind fun i => (allow_Read.l0 k l d (b.set (a : Int).toNat i) g (wrap64 (a + 1)))) else (none)) else (none)) else ((header_Get.f k l (⟨#[97, 99, 99, 101, 115, 115, 45, 99, 111, 110, 116, 114, 111, 108, 45, 109, 97, 120, 45, 97, 103, 101]⟩ : ByteArray)).bind fun e => ((octet_Trim.f k e.1).bind fun j => ((octet_Digits.f k j).bind fun c => (if c.2 = true then (some (d, b, mn c.1 7200, 0)) else (some (d, b, 5, 0))))))
def allow_Read.f (k : Nat) (l0 : List (S28)) : Option (List ByteArray × List ByteArray × Int × Int) := (allow_tokens.f k l0 (⟨#[97, 99, 99, 101, 115, 115, 45, 99, 111, 110, 116, 114, 111, 108, 45, 97, 108, 108, 111, 119, 45, 109, 101, 116, 104, 111, 100, 115]⟩ : ByteArray)).bind fun b => (if b.2 = true then ((allow_tokens.f k l0 (⟨#[97, 99, 99, 101, 115, 115, 45, 99, 111, 110, 116, 114, 111, 108, 45, 97, 108, 108, 111, 119, 45, 104, 101, 97, 100, 101, 114, 115]⟩ : ByteArray)).bind fun a => (if a.2 = true then (allow_Read.l0 k l0 b.1 a.1 (a.1.length : Int) 0) else (some (([] : List ByteArray), ([] : List ByteArray), 0, 6)))) else (some (([] : List ByteArray), ([] : List ByteArray), 0, 5)))
theorem allow_Read.mono_l : ∀ k, (∀ a b c d e, LeO (allow_Read.l0 k a b c d e) (allow_Read.l0 (k + 1) a b c d e))
 | 0 => fun _ _ _ _ _ r h => by simp [allow_Read.l0] at h
 | k + 1 => by
  have ih0 := allow_Read.mono_l k
  ·intros
   have g := @allow_tokens.mono; have i := @header_Get.mono; have j := @octet_Digits.mono; have l := @octet_Trim.mono; unfold allow_Read.l0
   exact moE
theorem allow_Read.mono : ∀ a k, LeO (allow_Read.f k a) (allow_Read.f (k + 1) a) := by
 intro a k
 have ih0 := allow_Read.mono_l k
 have b := @allow_tokens.mono; have c := @header_Get.mono; have d := @octet_Digits.mono; have e := @octet_Trim.mono; unfold allow_Read.f
 exact moE
theorem allow_Read.calls (k : Nat) (A0 : Option Addr) (c0 : Nat) (l0 : List (S28)) (r1 r2 : List ByteArray) (r3 r4 : Int) (w : World) (hr0 : Kd.C k28 w A0 l0.length l0) (hc0 : l0.length ≤ c0) (h : allow_Read.f k l0 = some (r1, r2, r3, r4)) :
  Calls Tryz.prog 73 #[.slice A0 l0.length c0] w fun e w' => ∃ v0_ v1_ : Value, e = .returned (.tuple #[.agg #[v0_, v1_, .int .u64 r3], .int .i64 r4]) ∧ Kd.R Kd.string 9 w' w.heap.size (fun k_ => some k_ ≠ (v1_ : Value).ownBlock) v0_ r1 ∧ Kd.R Kd.string 9 w' w.heap.size (fun k_ => some k_ ≠ (v0_ : Value).ownBlock) v1_ r2 ∧ Below w.heap.size w w' := by
 have hu51 := Tryz.underlying51; have HR2 := Aside0.mk hr0; have E := Aside0.mk hc0; clear hr0 hc0; have HB := Aside0.mk (Below.refl w.heap.size w); have H := h; clear h; unfold allow_Read.f at H; replace H := bd_ H; obtain ⟨⟨x, t4⟩, A3, H⟩ := H; replace H : (if t4 = true then ((allow_tokens.f k l0 (⟨#[97, 99, 99, 101, 115, 115, 45, 99, 111, 110, 116, 114, 111, 108, 45, 97, 108, 108, 111, 119, 45, 104, 101, 97, 100, 101, 114, 115]⟩ : ByteArray)).bind fun bt3 => (if bt3.2 = true then (allow_Read.l0 k l0 x bt3.1 (bt3.1.length : Int) 0) else (some (([] : List ByteArray), ([] : List ByteArray), 0, 6)))) else (some (([] : List ByteArray), ([] : List ByteArray), 0, 5))) = some (r1, r2, r3, r4) := H; revert H; refine iteB_ (fun c4 H => ?g1p) (fun c4 H => ?g1n)
 case' g1p =>
  subst c4; replace H := bd_ H; obtain ⟨⟨t3, t5⟩, A5, H⟩ := H; replace H : (if t5 = true then (allow_Read.l0 k l0 x t3 (t3.length : Int) 0) else (some (([] : List ByteArray), ([] : List ByteArray), 0, 6))) = some (r1, r2, r3, r4) := H; revert H; refine iteB_ (fun c6 H => ?g2p) (fun c6 H => ?g2n)
  case' g2p =>
   subst c6; have H' := Aside0.mk H; clear H; have M3_0 := trivial
  case' g2n =>
   subst c6
   simp only [Option.some.injEq, Prod.mk.injEq] at H
   obtain ⟨rfl, rfl, rfl, rfl⟩ := H; have M3_1 := trivial
 case' g1n =>
  subst c4
  simp only [Option.some.injEq, Prod.mk.injEq] at H
  obtain ⟨rfl, rfl, rfl, rfl⟩ := H; have M3_1 := trivial
 all_goals
  go_enter Tryz.func73, Tryz.ntmps73; go_wp2_with (first | ((with_reducible refine gate_dst (N := 2) rfl ?_); refine bxE (N := 2) (cs := #[.slice none 0 0, .slice none 0 0, .int .u64 0]) (t := 51) fun d hg w1a2 hbox hb => ?_; obtain ⟨HB', a, GW1a1⟩ := bx_ bE hg hbox hb; have GE1a1 := GW1a1; clear HB hb hbox hg; have HB := HB'; clear HB') | ((with_reducible refine gate_callee (f := 128) rfl ?_); refine gL _ Tryz.func128 _ ((allow_tokens.calls k _ _ l0 (⟨#[97, 99, 99, 101, 115, 115, 45, 99, 111, 110, 116, 114, 111, 108, 45, 97, 108, 108, 111, 119, 45, 109, 101, 116, 104, 111, 100, 115]⟩ : ByteArray) x true _ ?side1 ?side2 A3.out).mono ?_); (case side1 => exact cE); (case side2 => exact E.out); rintro e w2a1 ⟨G, rfl, s, hb⟩; refine ⟨_, rfl, ?_⟩; have n0_ := Aside0.mk (Kd.R_lower s (below_size bE)); have n1_ := kM a hb; have n2_ := bS bE hb; clear a; clear HB; have u := n0_; have a := n1_; have HB := n2_; clear n0_ n1_ n2_; (try clear hb); (try clear W); (try clear hk); (try clear hi); (try clear s)) | ((with_reducible refine gate_callee (f := 128) rfl ?_); refine gL _ Tryz.func128 _ ((allow_tokens.calls k _ _ l0 (⟨#[97, 99, 99, 101, 115, 115, 45, 99, 111, 110, 116, 114, 111, 108, 45, 97, 108, 108, 111, 119, 45, 104, 101, 97, 100, 101, 114, 115]⟩ : ByteArray) t3 true _ ?side1 ?side2 A5.out).mono ?_); (case side1 => exact cE); (case side2 => exact E.out); rintro e w3a1 ⟨v3a2, rfl, s, hb⟩; refine ⟨_, rfl, ?_⟩; have n0_ := Aside0.mk (Kd.R_elder' (rK u.out) (Kd.R_base s) hb); have n1_ := Aside0.mk (Kd.R_lower (Kd.R_new' s (Kd.R_lt (rK u.out))) (below_size bE)); have n2_ := kM a hb; have n3_ := bS bE hb; clear u; clear a; clear HB; have u := n0_; have I := n1_; have a := n2_; have HB := n3_; clear n0_ n1_ n2_ n3_; (try clear hb); (try clear W); (try clear hk); (try clear hi); (try clear s); obtain ⟨i, c, eo3a4⟩ := Kd.R_slice I.out; subst eo3a4) | ((with_reducible refine gate_callee (f := 128) rfl ?_); refine gL _ Tryz.func128 _ ((allow_tokens.calls k _ _ l0 (⟨#[97, 99, 99, 101, 115, 115, 45, 99, 111, 110, 116, 114, 111, 108, 45, 97, 108, 108, 111, 119, 45, 104, 101, 97, 100, 101, 114, 115]⟩ : ByteArray) t3 false _ ?side1 ?side2 A5.out).mono ?_); (case side1 => exact cE); (case side2 => exact E.out); rintro e w10a1 ⟨v10a2, rfl, s, hb⟩; refine ⟨_, rfl, ?_⟩; have n0_ := Aside0.mk (Kd.R_elder' (rK u.out) (Kd.R_base s) hb); have n1_ := Aside0.mk (Kd.R_lower (Kd.R_new' s (Kd.R_lt (rK u.out))) (below_size bE)); have n2_ := kM a hb; have n3_ := bS bE hb; clear u; clear a; clear HB; have u := n0_; have HO10a3 := n1_; have a := n2_; have HB := n3_; clear n0_ n1_ n2_ n3_; (try clear hb); (try clear W); (try clear hk); (try clear hi); (try clear s); obtain ⟨z10a4_0, z10a4_1, z10a4_2, zf10a4_0, zf10a4_1, zf10a4_2⟩ := bk3_ a) | ((with_reducible refine gate_callee (f := 128) rfl ?_); refine gL _ Tryz.func128 _ ((allow_tokens.calls k _ _ l0 (⟨#[97, 99, 99, 101, 115, 115, 45, 99, 111, 110, 116, 114, 111, 108, 45, 97, 108, 108, 111, 119, 45, 109, 101, 116, 104, 111, 100, 115]⟩ : ByteArray) x false _ ?side1 ?side2 A3.out).mono ?_); (case side1 => exact cE); (case side2 => exact E.out); rintro e w11a1 ⟨v11a2, rfl, D, hb⟩; refine ⟨_, rfl, ?_⟩; have n0_ := Aside0.mk (Kd.R_lower D (below_size bE)); have n1_ := kM a hb; have n2_ := bS bE hb; clear a; clear HB; have HO11a4 := n0_; have a := n1_; have HB := n2_; clear n0_ n1_ n2_; (try clear hb); (try clear W); (try clear hk); (try clear hi); (try clear D); obtain ⟨z11a5_0, z11a5_1, z11a5_2, zf11a5_0, zf11a5_1, zf11a5_2⟩ := bk3_ a))
  first
  | clear M3_0
    go_loopg [32] k (fun kq v3s1 w' => ∃ (b : List ByteArray) (j : Int), v3s1 = .int .i64 j ∧ Aside0 (allow_Read.l0 kq l0 x b (t3.length : Int) j = some (r1, r2, r3, r4)) ∧ Aside0 (kq ≤ k) ∧ Aside0 (Kd.R Kd.string 9 w' w.heap.size (fun k_ => some k_ ≠ ((.slice i t3.length c) : Value).ownBlock) G x) ∧ Aside0 (Kd.R Kd.string 9 w' w.heap.size (fun k_ => some k_ ≠ (G : Value).ownBlock) (.slice i t3.length c) b) ∧ Aside0 (w'.heap[d]? = some (.cells #[(.slice none 0 0), (.slice none 0 0), .int .u64 0] 51 (0, 0))) ∧ Aside0 (Below w.heap.size w w'))
    case atStart => exact ⟨(t3), (0), rS, H', ⟨Nat.le_refl _⟩, ⟨rK (Kd.R_mono u.out (fun _ hk => hk.2))⟩, ⟨rK (Kd.R_mono I.out (fun _ hk => hk.2))⟩, ⟨kC a⟩, ⟨bE⟩⟩
    case round =>
     clear H'; (try clear c4); (try clear c6); obtain ⟨b, j, rfl, HA, HK1, HO_17, HO_25, a, HB⟩ := hrel; have hl25_1 := (Kd.R_reads' HO_25.out).1
     rw [hl25_1] at HO_25
     (try simp only [hl25_1]); (try simp only [hl25_1] at a); (try simp only [hl25_1] at HO_17)
     cases gk with
     | zero => exact absurd HA.out (by simp [allow_Read.l0])
     | succ k1 =>
      have H := HA.out; clear HA
      simp only [allow_Read.l0] at H
      revert H; refine iteDP_ (fun c8b0 H => ?g4p) (fun c8 H => ?g4n)
      case' g4p =>
       revert H; refine iteND_ fun c9b0 => iteND_ fun c10b0 H => ?_; replace H := bd_ H; obtain ⟨t6, X, H⟩ := H
       try replace H := bsm_ H
       generalize hy12 : (b.set (j : Int).toNat t6) = y12 at H; have Ny12 := Aside0.mk hy12.symm; clear hy12; have H' := Aside0.mk H; clear H; have p13 : 0 ≤ (j : Int) := of_decide_eq_true mE; have q13 : j < (b.length : Int) := of_decide_eq_true mE; obtain ⟨ad13, e7, Y⟩ := Kd.at_string (Kd.R_reads' HO_25.out).2.2 j p13 q13
       cases e7
       replace p13 := eq_true p13; replace q13 := eq_true q13; have M6_0 := trivial
      case' g4n =>
       have c8b0 := decide_eq_false c8
       try (have Z := c8b0; simp only [hl25_1] at Z)
       clear c8; replace H := bd_ H; obtain ⟨⟨t6, t7⟩, A9, H⟩ := H; replace H : ((octet_Trim.f k1 t6).bind fun t8 => ((octet_Digits.f k1 t8).bind fun bt9 => (if bt9.2 = true then (some (x, b, mn bt9.1 7200, 0)) else (some (x, b, 5, 0))))) = some (r1, r2, r3, r4) := H; replace H := bd_ H; obtain ⟨t8, A10, H⟩ := H; replace H := bd_ H; obtain ⟨⟨t9, t10⟩, X, H⟩ := H; replace H : (if t10 = true then (some (x, b, mn t9 7200, 0)) else (some (x, b, 5, 0))) = some (r1, r2, r3, r4) := H; revert H; refine iteB_ (fun c12 H => ?g5p) (fun c12 H => ?g5n)
       case' g5p =>
        subst c12; generalize y : (mn t9 7200) = z at H; (try rw [y] at A9); (try rw [y] at A10); (try rw [y] at X); (try (have hji13h : z ≤ 7200 := by (rw [← y]; unfold mn; (repeat' split) <;> omega))); (try (have hji13g : z ≤ 64 := by omega)); have hji13_ : (if 7200 < t9 then 7200 else t9) = z := y
        simp only [Option.some.injEq, Prod.mk.injEq] at H
        obtain ⟨rfl, rfl, rfl, rfl⟩ := H; obtain ⟨m, n, J⟩ := Kd.R_slice HO_17.out; subst J; have M6_1 := trivial
       case' g5n =>
        subst c12
        simp only [Option.some.injEq, Prod.mk.injEq] at H
        obtain ⟨rfl, rfl, rfl, rfl⟩ := H; obtain ⟨m, n, J⟩ := Kd.R_slice HO_17.out; subst J; have M6_2 := trivial
      all_goals
       go_wp2_with (first | ((with_reducible refine gate_callee (f := 95) rfl ?_); refine gL _ Tryz.func95 _ ((octet_Lower.calls (rdOf ByteArray.empty b j) _ _ X.out).mono ?_); rintro e w4a1 ⟨rfl, hb⟩; refine ⟨_, rfl, ?_⟩; replace HO_17 := rM HO_17 hb; replace HO_25 := rM HO_25 hb; replace a := kM a hb; replace HB := bS bE hb; (try clear hb); have K : 0 ≤ (j : Int) := of_decide_eq_true mE; have L : (j : Int) < ((b.length : Int) : Int) := of_decide_eq_true mE; obtain ⟨go4a3, co4a3, M, O, gl14, cl14, HG14⟩ := Kd.R_form HO_25.out (by omega); (first | cases M | (injection M with ea_ en_ ec_; (first | subst ea_ | (injection ea_ with ea_; subst ea_)); subst ec_; clear en_)); have GB14 := Aside0.mk O; have GG14 := Aside0.mk HG14; clear O gl14 HG14; (first | simp only [add_plain] at Y | skip); obtain ⟨hx4a2_0, hf14_0⟩ := Kd.R_celln (⟨#[]⟩ : ByteArray) HO_25.out (j : Int) K L; replace K := eq_true K; replace L := eq_true L; obtain ⟨hy4a4_, hz16_⟩ := Kd.R_celln (⟨#[]⟩ : ByteArray) HO_25.out (j : Int) (of_decide_eq_true mE) (of_decide_eq_true mE); have HP16 := Kd.R_putg HO_25.out (j : Int) t6) | ((with_reducible refine gate_store (t := 9) (p := 41) rfl ?_); refine store_event (t := 9) (p := 41) (v := ?vo_w17) (w1 := (w4a1.setCell ⟨go4a3, (j : Int).toNat, none⟩ (.string t6))) ?hg ?ho ?hn ?hr ?_; (case ho => rfl); (case hg => rfl); (case hn => rfl); (case hr => first | (go_simp; done) | (go_simp; rfl)); intro U hw; have hg : w4a1.grownBy U (some go4a3) := (by rw [hw]; exact HP16.2); have hp_ : Kd.R Kd.string 9 U w.heap.size (fun k_ => some k_ ≠ (G : Value).ownBlock) (.slice (some ⟨go4a3, 0, none⟩) b.length c) y12 := (by rw [hw, Ny12.out]; exact HP16.1); clear HP16; have n0_ := Aside0.mk (Kd.R_after (v := (.slice (some ⟨go4a3, 0, none⟩) b.length c)) (v1 := (.slice (some ⟨go4a3, 0, none⟩) b.length c)) (ok := (fun _ => True)) (rK (Kd.R_mono HO_17.out (fun _ hk => ⟨trivial, hk⟩))) hg (.inl rfl)); have n1_ := Aside0.mk (hp_); have n2_ := Aside0.mk (blk_grown (g := d) (o := .cells #[.slice none 0 0, .slice none 0 0, .int .u64 0] 51 (0, 0)) (kC a) hg (Kd.R_ne HO_25.out a.out (by decide))); have n3_ := Aside0.mk ((by rw [hw]; exact below_set (HB.out) GB14.out : Below w.heap.size w U)); clear HO_17; clear HO_25; clear a; clear HB; have HO_17 := n0_; have HO_25 := n1_; have a := n2_; have HB := n3_; clear n0_ n1_ n2_ n3_; clear hg hw hp_) | ((with_reducible refine gate_dst (N := 9) rfl ?_); refine bxE (N := 9) (cs := #[.slice none 0 0, .slice none 0 0, .int .u64 0]) (t := 51) fun r hg w6a2 hbox hb => ?_; have l := Aside0.mk (hbox); have GW6a1 := sE (w := w) hg; have GE6a1 := sE (w := w) hg; have A := neL a hg; have B := neG a hg; replace HO_17 := rM HO_17 hb; replace HO_25 := rM HO_25 hb; replace a := kM a hb; replace HB := bS bE hb; clear hb hbox hg; have hnb6a3 := B.out; have hnc6a3 := A.out; obtain ⟨z6a4_0, z6a4_1, z6a4_2, zf6a4_0, zf6a4_1, zf6a4_2⟩ := bk3_ l) | ((with_reducible refine gate_callee (f := 40) rfl ?_); refine gL _ Tryz.func40 _ ((header_Get.calls k1 _ _ l0 (⟨#[97, 99, 99, 101, 115, 115, 45, 99, 111, 110, 116, 114, 111, 108, 45, 109, 97, 120, 45, 97, 103, 101]⟩ : ByteArray) t6 t7 _ ?side1 ?side2 A9.out).mono ?_); (case side1 => exact Kd.C_below HR2.out bE); (case side2 => exact E.out); rintro e q ⟨rfl, hb⟩; refine ⟨_, rfl, ?_⟩; have n0_ := Aside0.mk (Kd.R_below (by (with_reducible repeat (first | apply Kd.R_alloc | apply Kd.R_drewN | apply Kd.R_drew)); exact (Kd.R_mono (Kd.R_far (p := ⟨r, 2, none⟩) (Kd.R_far (p := ⟨r, 1, none⟩) (Kd.R_far (p := ⟨r, 0, none⟩) (Kd.R_types HO_17.out l.out (by decide)) (fun _ hk => hk.2) (.slice m x.length n)) (fun _ hk => hk.2) (.slice i b.length c)) (fun _ hk => hk.2) (.int .u64 5)) (fun _ h_ => h_.1))) hb); have n1_ := Aside0.mk (Kd.R_below (by (with_reducible repeat (first | apply Kd.R_alloc | apply Kd.R_drewN | apply Kd.R_drew)); exact (Kd.R_mono (Kd.R_far (p := ⟨r, 2, none⟩) (Kd.R_far (p := ⟨r, 1, none⟩) (Kd.R_far (p := ⟨r, 0, none⟩) (Kd.R_types HO_25.out l.out (by decide)) (fun _ hk => hk.2) (.slice m x.length n)) (fun _ hk => hk.2) (.slice i b.length c)) (fun _ hk => hk.2) (.int .u64 5)) (fun _ h_ => h_.1))) hb); have n2_ := kF a hb; have n3_ := Aside0.mk (blk_below (g := r) (o := .cells #[.slice m x.length n, .slice i b.length c, .int .u64 5] 51 (0, 0)) (kT) hb); have n4_ := bS bE hb; clear HO_17; clear HO_25; clear a; clear l; clear HB; have HO_17 := n0_; have HO_25 := n1_; have a := n2_; have l := n3_; have HB := n4_; clear n0_ n1_ n2_ n3_ n4_; (try clear hb); (try clear W); (try clear hk); (try clear hi)) | ((with_reducible refine gate_callee (f := 77) rfl ?_); refine gL _ Tryz.func77 _ ((octet_Trim.calls k1 t6 _ _ A10.out).mono ?_); rintro e w' ⟨rfl, ⟨nd, rfl⟩⟩; refine ⟨_, rfl, ?_⟩; (try (rw [drewN_self q]; generalize hq_ : World.drewN q _ = q; have n0_ : Aside0 (Kd.R Kd.string 9 q w.heap.size (fun k_ => some k_ ≠ (.slice i b.length c : Value).ownBlock) (.slice m x.length n) x) := ⟨by rw [← hq_]; exact (rK HO_17.out)⟩; have n1_ : Aside0 (Kd.R Kd.string 9 q w.heap.size (fun k_ => some k_ ≠ (.slice m x.length n : Value).ownBlock) (.slice i b.length c) b) := ⟨by rw [← hq_]; exact (rK HO_25.out)⟩; have n2_ : Aside0 (q.heap[d]? = some (.cells #[.slice none 0 0, .slice none 0 0, .int .u64 0] 51 (0, 0))) := ⟨by rw [← hq_]; exact (kC a)⟩; have n3_ : Aside0 (q.heap[r]? = some (.cells #[.slice m x.length n, .slice i b.length c, .int .u64 5] 51 (0, 0))) := ⟨by rw [← hq_]; exact (kC l)⟩; have n4_ : Aside0 (Below w.heap.size w q) := ⟨by rw [← hq_]; exact bE⟩; clear HO_17 HO_25 a l HB hq_; have HO_17 := n0_; have HO_25 := n1_; have a := n2_; have l := n3_; have HB := n4_; clear n0_ n1_ n2_ n3_ n4_))) | ((with_reducible refine gate_callee (f := 129) rfl ?_); refine gL _ Tryz.func129 _ ((octet_Digits.calls k1 t8 t9 _ _ X.out).mono ?_); rintro e w' ⟨rfl, ⟨nd, rfl⟩⟩; refine ⟨_, rfl, ?_⟩; (try (rw [drewN_self q]; generalize hq_ : World.drewN q _ = q; have n0_ : Aside0 (Kd.R Kd.string 9 q w.heap.size (fun k_ => some k_ ≠ (.slice i b.length c : Value).ownBlock) (.slice m x.length n) x) := ⟨by rw [← hq_]; exact (rK HO_17.out)⟩; have n1_ : Aside0 (Kd.R Kd.string 9 q w.heap.size (fun k_ => some k_ ≠ (.slice m x.length n : Value).ownBlock) (.slice i b.length c) b) := ⟨by rw [← hq_]; exact (rK HO_25.out)⟩; have n2_ : Aside0 (q.heap[d]? = some (.cells #[.slice none 0 0, .slice none 0 0, .int .u64 0] 51 (0, 0))) := ⟨by rw [← hq_]; exact (kC a)⟩; have n3_ : Aside0 (q.heap[r]? = some (.cells #[.slice m x.length n, .slice i b.length c, .int .u64 5] 51 (0, 0))) := ⟨by rw [← hq_]; exact (kC l)⟩; have n4_ : Aside0 (Below w.heap.size w q) := ⟨by rw [← hq_]; exact bE⟩; clear HO_17 HO_25 a l HB hq_; have HO_17 := n0_; have HO_25 := n1_; have a := n2_; have l := n3_; have HB := n4_; clear n0_ n1_ n2_ n3_ n4_)); obtain ⟨z9a1_0, z9a1_1, z9a1_2, zf9a1_0, zf9a1_1, zf9a1_2⟩ := bk3_ l; obtain ⟨z9a2_0, z9a2_1, z9a2_2, zf9a2_0, zf9a2_1, zf9a2_2⟩ := bk3_ a))
       first
       | clear M6_0
         (try simp only [← hl25_1])
         go_roundg k1
         case measure => have := HK1.out; omega
         case rel => exact ⟨(y12), (wrap64 (j + 1)), rS, H', ⟨by have := HK1.out; omega⟩, ⟨by (try simp only [hl25_1]); (with_reducible repeat (first | apply Kd.R_alloc | apply Kd.R_drewN | apply Kd.R_drew)); exact Kd.R_mono HO_17.out (fun _ hk => hk.2)⟩, ⟨by (try simp only [hl25_1]); (with_reducible repeat (first | apply Kd.R_alloc | apply Kd.R_drewN | apply Kd.R_drew)); exact HO_25.out⟩, ⟨by (try simp only [hl25_1]); (with_reducible repeat (first | refine kN ?_ _ | refine kD ?_ | refine kA ?_ _)); exact a.out⟩, ⟨bE⟩⟩
       | clear M6_1
         refine bodyPost_ret (results_ct rfl _ _ d 51 #[.slice m x.length n, .slice i b.length c, .int .u64 z] (0, 0) _ rfl (kT) Tryz.underlying51 rfl (by kernel_rfl)) rfl ?_; exact ⟨_, _, by first | rfl | (simp [errW_none, errW_some] <;> rfl) | (simp only [← y]; first | rfl | (simp [errW_none, errW_some] <;> rfl)) | (simp [*, errW_none, errW_some] <;> rfl), by (with_reducible repeat (first | apply Kd.R_alloc | apply Kd.R_drewN | apply Kd.R_drew)); exact Kd.R_mono (Kd.R_far (p := ⟨d, 2, none⟩) (Kd.R_far (p := ⟨d, 1, none⟩) (Kd.R_far (p := ⟨d, 0, none⟩) (Kd.R_far (p := ⟨r, 2, none⟩) (Kd.R_types (Kd.R_types HO_17.out l.out (by decide)) a.out (by decide)) (fun _ hk => hk.1.2) (.int .u64 z)) (fun _ hk => hk.2) (.slice m x.length n)) (fun _ hk => hk.2) (.slice i b.length c)) (fun _ hk => hk.2) (.int .u64 z)) (fun _ hk => hk.1.1), by (with_reducible repeat (first | apply Kd.R_alloc | apply Kd.R_drewN | apply Kd.R_drew)); exact Kd.R_mono (Kd.R_far (p := ⟨d, 2, none⟩) (Kd.R_far (p := ⟨d, 1, none⟩) (Kd.R_far (p := ⟨d, 0, none⟩) (Kd.R_far (p := ⟨r, 2, none⟩) (Kd.R_types (Kd.R_types HO_25.out l.out (by decide)) a.out (by decide)) (fun _ hk => hk.1.2) (.int .u64 z)) (fun _ hk => hk.2) (.slice m x.length n)) (fun _ hk => hk.2) (.slice i b.length c)) (fun _ hk => hk.2) (.int .u64 z)) (fun _ hk => hk.1.1), bE⟩
       | clear M6_2
         refine bodyPost_ret (results_ct rfl _ _ d 51 #[.slice m x.length n, .slice i b.length c, .int .u64 5] (0, 0) _ rfl (kT) Tryz.underlying51 rfl (by kernel_rfl)) rfl ?_; exact ⟨_, _, rE, by (with_reducible repeat (first | apply Kd.R_alloc | apply Kd.R_drewN | apply Kd.R_drew)); exact Kd.R_mono (Kd.R_far (p := ⟨d, 2, none⟩) (Kd.R_far (p := ⟨d, 1, none⟩) (Kd.R_far (p := ⟨d, 0, none⟩) (Kd.R_types HO_17.out a.out (by decide)) (fun _ hk => hk.2) (.slice m x.length n)) (fun _ hk => hk.2) (.slice i b.length c)) (fun _ hk => hk.2) (.int .u64 5)) (fun _ hk => hk.1), by (with_reducible repeat (first | apply Kd.R_alloc | apply Kd.R_drewN | apply Kd.R_drew)); exact Kd.R_mono (Kd.R_far (p := ⟨d, 2, none⟩) (Kd.R_far (p := ⟨d, 1, none⟩) (Kd.R_far (p := ⟨d, 0, none⟩) (Kd.R_types HO_25.out a.out (by decide)) (fun _ hk => hk.2) (.slice m x.length n)) (fun _ hk => hk.2) (.slice i b.length c)) (fun _ hk => hk.2) (.int .u64 5)) (fun _ hk => hk.1), bE⟩
  | clear M3_1
    refine bodyPost_ret (results_ct rfl _ _ d 51 #[.slice none 0 0, .slice none 0 0, .int .u64 0] (0, 0) _ rfl (kT) Tryz.underlying51 rfl (by kernel_rfl)) rfl ?_; exact ⟨_, _, rE, by first | exact Kd.R_nil _ _ _ _ _ | exact Kd.N_nil _ _ _ _ _ | exact Kd.V_nil _ _ _ _ _ | exact Kd.Q_nil _ _ _ _ _ | exact Kd.S_nil _ _ _ _ _, by first | exact Kd.R_nil _ _ _ _ _ | exact Kd.N_nil _ _ _ _ _ | exact Kd.V_nil _ _ _ _ _ | exact Kd.Q_nil _ _ _ _ _ | exact Kd.S_nil _ _ _ _ _, bE⟩
def allow_Has.f (k : Nat) (a e : List ByteArray) (g : Int) (i : ByteArray) (j : Bool) : Option (Bool) := (method_Safe.f k i).bind fun b => (if b = true then (some true) else ((slices_Contains_string_string.f a i).bind fun c => (if c = true then (some true) else (if j = true then (some false) else ((slices_Contains_string_string.f a (⟨#[42]⟩ : ByteArray)).bind fun d => (some d))))))
theorem allow_Has.mono : ∀ a b c d e k, LeO (allow_Has.f k a b c d e) (allow_Has.f (k + 1) a b c d e) := by
 intro a b c d e k
 have g := @method_Safe.mono; unfold allow_Has.f
 exact moE
theorem allow_Has.calls (k : Nat) (g : Option Addr) (i : Nat) (a : List ByteArray) (j : Option Addr) (l : Nat) (b : List ByteArray) (m : Int) (v : ByteArray) (O r : Bool) (w : World) (n : Kd.C Kd.string w g a.length a) (o : a.length ≤ i) (p : Kd.C Kd.string w j b.length b) (q : b.length ≤ l) (h : allow_Has.f k a b m v O = some r) :
  Calls Tryz.prog 74 #[.agg #[.slice g a.length i, .slice j b.length l, .int .u64 m], .string v, .bool O] w fun e w' => e = .returned (.bool r) ∧ Below w.heap.size w w' := by
 have U := Tryz.underlying51; have s := Aside0.mk n; have c := Aside0.mk o; clear n o; have E := Aside0.mk p; have G := Aside0.mk q; clear p q; have HB := Aside0.mk (Below.refl w.heap.size w); have H := h; clear h; unfold allow_Has.f at H; replace H := bd_ H; obtain ⟨t1, Z, H⟩ := H; revert H; refine iteB_ (fun I H => ?g1p) (fun I H => ?g1n)
 case' g1p =>
  subst I; obtain rfl := si_ H
 case' g1n =>
  subst I; replace H := bd_ H; obtain ⟨t2, W, H⟩ := H; revert H; refine iteB_ (fun J H => ?g2p) (fun J H => ?g2n)
  case' g2p =>
   subst J; obtain rfl := si_ H
  case' g2n =>
   subst J; revert H; refine iteB_ (fun K H => ?g3p) (fun K H => ?g3n)
   case' g3p =>
    subst K; obtain rfl := si_ H
   case' g3n =>
    subst K; replace H := bd_ H; obtain ⟨t3, A7, H⟩ := H; obtain rfl := si_ H
 all_goals
  go_enter Tryz.func74, Tryz.ntmps74; go_wp2_with (first | ((with_reducible refine gate_dst (N := 3) rfl ?_); refine bxE (N := 3) (cs := #[.slice g a.length i, .slice j b.length l, .int .u64 m]) (t := 51) fun L hg X hbox hb => ?_; obtain ⟨HB', d, u⟩ := bx_ bE hg hbox hb; have M := u; clear HB hb hbox hg; have HB := HB'; clear HB') | ((with_reducible refine gate_callee (f := 38) rfl ?_); refine gL _ Tryz.func38 _ ((method_Safe.calls k v _ _ Z.out).mono ?_); rintro e Y ⟨rfl, hb⟩; refine ⟨_, rfl, ?_⟩; replace d := kM d hb; replace HB := bS bE hb; (try clear hb); obtain ⟨A, B, D, x, y, z⟩ := bk3_ d) | (go_at_call 130; (with_reducible refine (slices_Contains_string_string.calls _ _ a v true _ ?side1 ?side2 W.out).mono ?_); (case side1 => exact cE); (case side2 => exact c.out); rintro e w' ⟨rfl, ⟨nd, rfl⟩⟩) | (go_at_call 130; (with_reducible refine (slices_Contains_string_string.calls _ _ a v false _ ?side1 ?side2 W.out).mono ?_); (case side1 => exact cE); (case side2 => exact c.out); rintro e w' ⟨rfl, ⟨nd, rfl⟩⟩) | (go_at_call 130; (with_reducible refine (slices_Contains_string_string.calls _ _ a (⟨#[42]⟩ : ByteArray) t3 _ ?side1 ?side2 A7.out).mono ?_); (case side1 => repeat (first | exact (Kd.C_below s.out bE) | (with_reducible refine Kd.C_alloc ?_ _) | (with_reducible refine Kd.C_drewN ?_ _) | (with_reducible refine Kd.C_drew ?_))); (case side2 => exact c.out); rintro e w' ⟨rfl, ⟨nd, rfl⟩⟩)); go_ret; exact ⟨rE, bE⟩
def allow_Covers.f (e a : List ByteArray) (g : Int) (i : ByteArray) (j : Bool) : Option (Bool) := (octet_Lower.f i).bind fun b => ((slices_Contains_string_string.f a b).bind fun c => (if c = true then (some true) else (if j = true then (some false) else (if b.toList = ([97, 117, 116, 104, 111, 114, 105, 122, 97, 116, 105, 111, 110] : List UInt8) then (some false) else ((slices_Contains_string_string.f a (⟨#[42]⟩ : ByteArray)).bind fun d => (some d))))))
theorem allow_Covers.calls (g : Option Addr) (i : Nat) (b : List ByteArray) (j : Option Addr) (l : Nat) (a : List ByteArray) (m : Int) (G : ByteArray) (U r : Bool) (w : World) (n : Kd.C Kd.string w g b.length b) (o : b.length ≤ i) (p : Kd.C Kd.string w j a.length a) (q : a.length ≤ l) (h : allow_Covers.f b a m G U = some r) :
  Calls Tryz.prog 75 #[.agg #[.slice g b.length i, .slice j a.length l, .int .u64 m], .string G, .bool U] w fun e w' => e = .returned (.bool r) ∧ Below w.heap.size w w' := by
 have W := Tryz.underlying51; have I := Aside0.mk n; have J := Aside0.mk o; clear n o; have s := Aside0.mk p; have c := Aside0.mk q; clear p q; have HB := Aside0.mk (Below.refl w.heap.size w); have H := h; clear h; unfold allow_Covers.f at H; replace H := bd_ H; obtain ⟨X, A2, H⟩ := H; replace H := bd_ H; obtain ⟨t2, Y, H⟩ := H; revert H; refine iteB_ (fun K H => ?g1p) (fun K H => ?g1n)
 case' g1p =>
  subst K; obtain rfl := si_ H
 case' g1n =>
  subst K; revert H; refine iteB_ (fun L H => ?g2p) (fun L H => ?g2n)
  case' g2p =>
   subst L; obtain rfl := si_ H
  case' g2n =>
   subst L; revert H; refine iteEF_ (fun v x H => ?g3p) (fun c6 v x H => ?g3n)
   case' g3p =>
    obtain rfl := si_ H
   case' g3n =>
    replace H := bd_ H; obtain ⟨t3, A7, H⟩ := H; obtain rfl := si_ H
 all_goals
  go_enter Tryz.func75, Tryz.ntmps75; go_wp2_with (first | ((with_reducible refine gate_dst (N := 3) rfl ?_); refine bxE (N := 3) (cs := #[.slice g b.length i, .slice j a.length l, .int .u64 m]) (t := 51) fun M hg Z hbox hb => ?_; obtain ⟨HB', d, u⟩ := bx_ bE hg hbox hb; have O := u; clear HB hb hbox hg; have HB := HB'; clear HB') | ((with_reducible refine gate_callee (f := 95) rfl ?_); refine gL _ Tryz.func95 _ ((octet_Lower.calls G _ _ A2.out).mono ?_); rintro e a0 ⟨rfl, hb⟩; refine ⟨_, rfl, ?_⟩; replace d := kM d hb; replace HB := bS bE hb; (try clear hb); obtain ⟨B, D, E, y, z, A⟩ := bk3_ d) | ((with_reducible refine gate_callee (f := 130) rfl ?_); refine gL _ Tryz.func130 _ ((slices_Contains_string_string.calls _ _ a X true _ ?side1 ?side2 Y.out).mono ?_); (case side1 => exact cE); (case side2 => exact c.out); rintro e w' ⟨rfl, ⟨nd, rfl⟩⟩; refine ⟨_, rfl, ?_⟩) | ((with_reducible refine gate_callee (f := 130) rfl ?_); refine gL _ Tryz.func130 _ ((slices_Contains_string_string.calls _ _ a X false _ ?side1 ?side2 Y.out).mono ?_); (case side1 => exact cE); (case side2 => exact c.out); rintro e w' ⟨rfl, ⟨nd, rfl⟩⟩; refine ⟨_, rfl, ?_⟩) | (go_at_call 130; (with_reducible refine (slices_Contains_string_string.calls _ _ a (⟨#[42]⟩ : ByteArray) t3 _ ?side1 ?side2 A7.out).mono ?_); (case side1 => repeat (first | exact (Kd.C_below s.out bE) | (with_reducible refine Kd.C_alloc ?_ _) | (with_reducible refine Kd.C_drewN ?_ _) | (with_reducible refine Kd.C_drew ?_))); (case side2 => exact c.out); rintro e w' ⟨rfl, ⟨nd, rfl⟩⟩)); go_ret; exact ⟨rE, bE⟩
end Go.Proofs.YtfmajangcbgooaaGreatDoor.Pr
