import Derived.Test.YtfmajangcbgooaaGreatDoorPr0
import Derived.Test.YtfmajangcbgooaaGreatDoorK0
import Derived.Test.YtfmajangcbgooaaGreatDoorPr10
import Derived.Test.YtfmajangcbgooaaGreatDoorPr16
import Derived.Test.YtfmajangcbgooaaGreatDoorPr19
import Derived.Test.YtfmajangcbgooaaGreatDoorPr21
import Derived.Test.YtfmajangcbgooaaGreatDoorPr22
namespace Go.Proofs.YtfmajangcbgooaaGreatDoor.Pr
open Go.RowKit Go.Proofs.YtfmajangcbgooaaGreatDoorW.PrintWords Go.Proofs.YtfmajangcbgooaaGreatDoorW.PrintLast Go.Proofs.YtfmajangcbgooaaGreatDoorW.PrintMore
attribute [local go_sem] max2_int min2_int max_two min_two max_three min_three max_four min_four
set_option linter.unusedVariables false
set_option maxHeartbeats 64000000
set_option maxRecDepth 100000
set_option linter.unusedSimpArgs false
attribute [local go_sem high] eqA70
mutual
def lockkeeperref8_Check.j0 : Nat → Bool → ByteArray → ByteArray → ByteArray → Int → Bool → List (S28) → Int → Int → Int → Int → ByteArray → ByteArray → Int → ByteArray → ByteArray → ByteArray → ByteArray → Int → Option (Int)
 | 0, _, _, _, _, _, _, _, _, _, _, _, _, _, _, _, _, _, _, _ => none
 | k + 1, x, c, d, e, g, i, b, a, j, l, m, n, o, p, q, r, s, t, u => if x = true then (some 7) else ((lockkeeperref6_Check.f k b).bind fun v => (if v = 0 then (if a < 1 then (lockkeeperref8_Check.j1 k true c d e g i b a j l m n o p q r s t u) else (lockkeeperref8_Check.j1 k (decide (a > 6)) c d e g i b a j l m n o p q r s t u)) else (some v)))
def lockkeeperref8_Check.j1 : Nat → Bool → ByteArray → ByteArray → ByteArray → Int → Bool → List (S28) → Int → Int → Int → Int → ByteArray → ByteArray → Int → ByteArray → ByteArray → ByteArray → ByteArray → Int → Option (Int)
 | 0, _, _, _, _, _, _, _, _, _, _, _, _, _, _, _, _, _, _, _ => none
 | k + 1, v, d, e, g, i, j, l, m, a, b, c, n, o, p, q, r, s, t, u => if v = true then (some 8) else (if a > 600 then (some 9) else (if b < 0 then (lockkeeperref8_Check.j2 k true d e g i j l m a b c n o p q r s t u) else (lockkeeperref8_Check.j2 k (decide (c < 0)) d e g i j l m a b c n o p q r s t u)))
def lockkeeperref8_Check.j2 : Nat → Bool → ByteArray → ByteArray → ByteArray → Int → Bool → List (S28) → Int → Int → Int → Int → ByteArray → ByteArray → Int → ByteArray → ByteArray → ByteArray → ByteArray → Int → Option (Int)
 | 0, _, _, _, _, _, _, _, _, _, _, _, _, _, _, _, _, _, _, _ => none
 | k + 1, v, b, c, d, a, e, g, i, j, l, m, n, o, p, t, u, q, r, s => if v = true then (some 2) else (if a = 1 then (lockkeeperref8_Check.j3 k (!(n.toList == q.toList) || (!(o.toList == r.toList) || (!(p == s)))) b c d a e g i j l m) else (lockkeeperref8_Check.j3 k false b c d a e g i j l m))
def lockkeeperref8_Check.j3 : Nat → Bool → ByteArray → ByteArray → ByteArray → Int → Bool → List (S28) → Int → Int → Int → Int → Option (Int)
 | 0, _, _, _, _, _, _, _, _, _, _, _ => none
 | k + 1, p, a, d, e, b, g, c, i, j, l, m => if p = true then (some 7) else (if b = 2 then ((lockkeeperref5_Safe.f a).bind fun n => (if n = true then ((lockkeeperref7_Names.f k c).bind fun o => (if (o.length : Int) > 0 then (some 7) else (some 0))) else (some 7))) else (some 0))
end
def lockkeeperref8_Check.f (k : Nat) (d e g : ByteArray) (c : Int) (i : Bool) (j : List (S28)) (l m n o : Int) : Option (Int) := (lockkeeperref4_Parse.f k e).bind fun a => (if a.2.2.2.2.2 = 0 then ((lockkeeperref3_Parse.f k g).bind fun b => (if b.2.2.2 = 0 then ((lockkeeperref5_Check.f k d).bind fun p => (if p = 0 then (if c < 1 then (lockkeeperref8_Check.j0 k true d e g c i j l m n o a.1 a.2.1 a.2.2.1 a.2.2.2.1 a.2.2.2.2.1 b.1 b.2.1 b.2.2.1) else (lockkeeperref8_Check.j0 k (decide (c > 3)) d e g c i j l m n o a.1 a.2.1 a.2.2.1 a.2.2.2.1 a.2.2.2.2.1 b.1 b.2.1 b.2.2.1)) else (some p))) else (some b.2.2.2))) else (some a.2.2.2.2.2))
theorem lockkeeperref8_Check.mono_l : ∀ k, (∀ m n o p q s t u v x a b c d e g i j l, LeO (lockkeeperref8_Check.j0 k m n o p q s t u v x a b c d e g i j l) (lockkeeperref8_Check.j0 (k + 1) m n o p q s t u v x a b c d e g i j l)) ∧ (∀ m n o p q s t u v x a b c d e g i j l, LeO (lockkeeperref8_Check.j1 k m n o p q s t u v x a b c d e g i j l) (lockkeeperref8_Check.j1 (k + 1) m n o p q s t u v x a b c d e g i j l)) ∧ (∀ m n o p q s t u v x a b c d e g i j l, LeO (lockkeeperref8_Check.j2 k m n o p q s t u v x a b c d e g i j l) (lockkeeperref8_Check.j2 (k + 1) m n o p q s t u v x a b c d e g i j l)) ∧ (∀ m n o p q s t u v x a, LeO (lockkeeperref8_Check.j3 k m n o p q s t u v x a) (lockkeeperref8_Check.j3 (k + 1) m n o p q s t u v x a))
 | 0 => ⟨fun _ _ _ _ _ _ _ _ _ _ _ _ _ _ _ _ _ _ _ r h => by simp [lockkeeperref8_Check.j0] at h, fun _ _ _ _ _ _ _ _ _ _ _ _ _ _ _ _ _ _ _ r h => by simp [lockkeeperref8_Check.j1] at h, fun _ _ _ _ _ _ _ _ _ _ _ _ _ _ _ _ _ _ _ r h => by simp [lockkeeperref8_Check.j2] at h, fun _ _ _ _ _ _ _ _ _ _ _ r h => by simp [lockkeeperref8_Check.j3] at h⟩
 | k + 1 => by
  obtain ⟨ih0, ih1, ih2, ih3⟩ := lockkeeperref8_Check.mono_l k
  have y := @lockkeeperref3_Parse.mono; have z := @lockkeeperref4_Parse.mono; have A := @lockkeeperref5_Check.mono; have B := @lockkeeperref6_Check.mono; have D := @lockkeeperref7_Names.mono
  refine ⟨?_, ?_, ?_, ?_⟩
  ·intros
   unfold lockkeeperref8_Check.j0
   exact moE
  ·intros
   unfold lockkeeperref8_Check.j1
   exact moE
  ·intros
   unfold lockkeeperref8_Check.j2
   exact moE
  ·intros
   unfold lockkeeperref8_Check.j3
   exact moE
theorem lockkeeperref8_Check.mono : ∀ a b c d e g i j l m k, LeO (lockkeeperref8_Check.f k a b c d e g i j l m) (lockkeeperref8_Check.f (k + 1) a b c d e g i j l m) := by
 intro a b c d e g i j l m k
 obtain ⟨ih0, ih1, ih2, ih3⟩ := lockkeeperref8_Check.mono_l k
 have n := @lockkeeperref3_Parse.mono; have o := @lockkeeperref4_Parse.mono; have p := @lockkeeperref5_Check.mono; have q := @lockkeeperref6_Check.mono; have r := @lockkeeperref7_Names.mono; unfold lockkeeperref8_Check.f
 exact moE
theorem lockkeeperref8_Check.calls (k : Nat) (n s q : ByteArray) (p : Int) (x : Bool) (b7 : Option Addr) (b8 : Nat) (m : List (S28)) (u y z v r : Int) (w : World) (hr0_5 : Kd.C k28 w b7 m.length m) (hc0_5 : m.length ≤ b8) (h : lockkeeperref8_Check.f k n s q p x m u y z v = some r) :
  Calls Tryz.prog 18 #[.agg #[.string n, .string s, .string q, .int .i64 p, .bool x, .slice b7 m.length b8, .int .i64 u, .int .u64 y, .int .i64 z, .int .i64 v]] w fun e w' => e = .returned (.int .i64 r) ∧ Below w.heap.size w w' := by
 have hu26 := Tryz.underlying26; have hu72 := Tryz.underlying72; have hu70 := Tryz.underlying70; have HR1_5 := Aside0.mk hr0_5; have HC1_5 := Aside0.mk hc0_5; clear hr0_5 hc0_5; have HB := Aside0.mk (Below.refl w.heap.size w); have H := h; clear h; unfold lockkeeperref8_Check.f at H; replace H := bd_ H; obtain ⟨⟨t1, t4, t5, t6, t7, t8⟩, A2, H⟩ := H; replace H : (if t8 = 0 then ((lockkeeperref3_Parse.f k q).bind fun br => (if br.2.2.2 = 0 then ((lockkeeperref5_Check.f k n).bind fun t3 => (if t3 = 0 then (if p < 1 then (lockkeeperref8_Check.j0 k true n s q p x m u y z v t1 t4 t5 t6 t7 br.1 br.2.1 br.2.2.1) else (lockkeeperref8_Check.j0 k (decide (p > 3)) n s q p x m u y z v t1 t4 t5 t6 t7 br.1 br.2.1 br.2.2.1)) else (some t3))) else (some br.2.2.2))) else (some t8)) = some r := H; revert H; refine iteEF_ (fun bs bu H => ?g1p) (fun c3 bs bu H => ?g1n)
 case' g1p =>
  replace H := bd_ H; obtain ⟨⟨t2, t9, ar, t11⟩, A4, H⟩ := H; replace H : (if t11 = 0 then ((lockkeeperref5_Check.f k n).bind fun t3 => (if t3 = 0 then (if p < 1 then (lockkeeperref8_Check.j0 k true n s q p x m u y z v t1 t4 t5 t6 t7 t2 t9 ar) else (lockkeeperref8_Check.j0 k (decide (p > 3)) n s q p x m u y z v t1 t4 t5 t6 t7 t2 t9 ar)) else (some t3))) else (some t11)) = some r := H; revert H; refine iteEF_ (fun bv bw H => ?g2p) (fun c5 bv bw H => ?g2n)
  case' g2p =>
   replace H := bd_ H; obtain ⟨t3, A6, H⟩ := H; revert H; refine iteEF_ (fun bx bB H => ?g3p) (fun c7 bx bB H => ?g3n)
   case' g3p =>
    have HC8 := Aside0.mk H; clear H; have M4_0 := trivial
   case' g3n =>
    obtain rfl := si_ H; have M4_1 := trivial
  case' g2n =>
   obtain rfl := si_ H; have M4_1 := trivial
 case' g1n =>
  obtain rfl := si_ H; have M4_1 := trivial
 all_goals
  go_enter Tryz.func18, Tryz.ntmps18
  first
  | clear M4_0
    go_upto_region 10 with (first | ((with_reducible refine gate_dst (N := 1) rfl ?_); (try (refine gate_guard (by rfl) ?_; dsimp only)); refine bxE (N := 1) (cs := #[.string n, .string s, .string q, .int .i64 p, .bool x, .slice b7 m.length b8, .int .i64 u, .int .u64 y, .int .i64 z, .int .i64 v]) (t := 26) fun b9 hg w1a2 hbox hb => ?_; obtain ⟨HB', a, GW1a1⟩ := bx_ bE hg hbox hb; have GE1a1 := GW1a1; clear HB hb hbox hg; have HB := HB'; clear HB'; obtain ⟨au, av, aw, ax, ay, az, aA, aB, aC, aD, D, E, G, I, J, K, L, M, O, U⟩ := bk10_ a) | ((with_reducible refine gate_callee (f := 50) rfl ?_); refine gL _ Tryz.func50 _ ((lockkeeperref4_Parse.calls k s t1 t4 t5 t6 t7 t8 _ A2.out).mono ?_); rintro e w2a1 ⟨rfl, hb⟩; refine ⟨_, rfl, ?_⟩; replace a := kM a hb; replace HB := bS bE hb; (try clear hb)) | ((with_reducible refine gate_dst (N := 3) rfl ?_); (try (refine gate_guard (by rfl) ?_; dsimp only)); refine bxE (N := 3) (cs := #[.string ⟨#[]⟩, .string ⟨#[]⟩, .int .i64 0, .string ⟨#[]⟩, .string ⟨#[]⟩]) (t := 72) fun ap hg w3a2 hbox hb => ?_; have b := Aside0.mk (hbox); have GW3a1 := sE (w := w) hg; have GE3a1 := sE (w := w) hg; have c := neL a hg; have d := neG a hg; replace a := kM a hb; replace HB := bS bE hb; clear hb hbox hg; have hnb3a3 := d.out; have hnc3a3 := c.out; obtain ⟨aE, aF, aG, aH, aI, W, X, Y, Z, a0⟩ := bk5_ b; obtain ⟨aJ, aK, aL, aN, aO, aP, aQ, aR, aS, aT, a1, a2, a3, a4, a5, a6, a7, a8, a9, aa⟩ := bk10_ a) | ((with_reducible refine gate_callee (f := 51) rfl ?_); refine gL _ Tryz.func51 _ ((lockkeeperref3_Parse.calls k q t2 t9 ar t11 _ A4.out).mono ?_); rintro e w4a1 ⟨rfl, hb⟩; refine ⟨_, rfl, ?_⟩; have n0_ := kF a hb; have n1_ := Aside0.mk (blk_below (g := ap) (o := .cells #[.string t1, .string t4, .int .i64 t5, .string t6, .string t7] 72 (0, 0)) (kT) hb); have n2_ := bS bE hb; clear a; clear b; clear HB; have a := n0_; have b := n1_; have HB := n2_; clear n0_ n1_ n2_; (try clear hb); (try clear hb2); (try clear hk); (try clear hi)) | ((with_reducible refine gate_dst (N := 5) rfl ?_); (try (refine gate_guard (by rfl) ?_; dsimp only)); refine bxE (N := 5) (cs := #[.string ⟨#[]⟩, .string ⟨#[]⟩, .int .i64 0]) (t := 70) fun aq hg w5a2 hbox hb => ?_; have l := Aside0.mk (hbox); have GW5a1 := sE (w := w) hg; have GE5a1 := sE (w := w) hg; have i := neL a hg; have j := neG a hg; have A := neL b hg; have B := neG b hg; replace a := kM a hb; replace b := kM b hb; replace HB := bS bE hb; clear hb hbox hg; have hnb5a3 := j.out; have hnc5a3 := i.out; have hnb5a4 := B.out; have hnc5a4 := A.out; obtain ⟨aU, aV, aW, ab, ac, ad⟩ := bk3_ l; obtain ⟨aX, aY, aZ, a_, b0, b1, b2, b3, b4, b5, ae, af, ag, ah, ai, aj, ak, al, am, an⟩ := bk10_ a) | ((with_reducible refine gate_callee (f := 52) rfl ?_); refine gL _ Tryz.func52 _ ((lockkeeperref5_Check.calls k n t3 _ A6.out).mono ?_); rintro e w6a1 ⟨rfl, hb⟩; refine ⟨_, rfl, ?_⟩; have n0_ := kF a hb; have n1_ := kF b hb; have n2_ := Aside0.mk (blk_below (g := aq) (o := .cells #[.string t2, .string t9, .int .i64 ar] 70 (0, 0)) (kT) hb); have n3_ := bS bE hb; clear a; clear b; clear l; clear HB; have a := n0_; have b := n1_; have l := n2_; have HB := n3_; clear n0_ n1_ n2_ n3_; (try clear hb); (try clear hb2); (try clear hk); (try clear hi)))
    (try simp only [Act.put, List.setIfInBounds_toArray, List.set_cons_zero, List.set_cons_succ])
    go_cut [40] (fun v4s1 wc => ∃ (kq : Nat) (x40_7 : Bool), v4s1 = .bool x40_7 ∧ Aside0 (lockkeeperref8_Check.j0 kq x40_7 n s q p x m u y z v t1 t4 t5 t6 t7 t2 t9 ar = some r) ∧ Aside0 (kq ≤ k) ∧ Aside0 (wc.heap[b9]? = some (.cells #[.string n, .string s, .string q, .int .i64 p, .bool x, (.slice b7 m.length b8), .int .i64 u, .int .u64 y, .int .i64 z, .int .i64 v] 26 (0, 0))) ∧ Aside0 (wc.heap[ap]? = some (.cells #[.string t1, .string t4, .int .i64 t5, .string t6, .string t7] 72 (0, 0))) ∧ Aside0 (wc.heap[aq]? = some (.cells #[.string t2, .string t9, .int .i64 ar] 70 (0, 0))) ∧ Aside0 (Below w.heap.size w wc))
    case first =>
     have H := HC8.out; clear HC8; revert H; refine iteDD_ (fun bC H => ?g5p) (fun bC H => ?g5n)
     case' g5p =>
      (first | rw [bC] | (simp only [i64_w, i32_w]; rw [bC]) | skip); have H' := Aside0.mk H; clear H; have hnb10 := c.out; have hnc10 := d.out; have hnb11 := i.out; have hnc11 := j.out; obtain ⟨z12_0, z12_1, z12_2, z12_3, z12_4, z12_5, z12_6, z12_7, z12_8, z12_9, zf12_0, zf12_1, zf12_2, zf12_3, zf12_4, zf12_5, zf12_6, zf12_7, zf12_8, zf12_9⟩ := bk10_ a; have M6_0 := trivial
     case' g5n =>
      (first | rw [bC] | (simp only [i64_w, i32_w]; rw [bC]) | skip); have H' := Aside0.mk H; clear H; have hnb10 := c.out; have hnc10 := d.out; have hnb11 := i.out; have hnc11 := j.out; obtain ⟨z12_0, z12_1, z12_2, z12_3, z12_4, z12_5, z12_6, z12_7, z12_8, z12_9, zf12_0, zf12_1, zf12_2, zf12_3, zf12_4, zf12_5, zf12_6, zf12_7, zf12_8, zf12_9⟩ := bk10_ a; have M6_1 := trivial
     all_goals
      go_wp2; go_meet
      first
      | clear M6_0
        case rel => exact ⟨_, (true), rS, H', ⟨oE⟩, ⟨kC a⟩, ⟨kC b⟩, ⟨kC l⟩, ⟨bE⟩⟩
      | clear M6_1
        case rel => exact ⟨_, (decide (p > 3)), rS, H', ⟨oE⟩, ⟨kC a⟩, ⟨kC b⟩, ⟨kC l⟩, ⟨bE⟩⟩
    case rest =>
     clear HC8; (try clear c3); (try clear bs); (try clear bu); (try clear c5); (try clear bv); (try clear bw); (try clear c7); (try clear bx); (try clear bB); (try clear au); (try clear av); (try clear aw); (try clear ax); (try clear ay); (try clear az); (try clear aA); (try clear aB); (try clear aC); (try clear aD); (try clear aE); (try clear aF); (try clear aG); (try clear aH); (try clear aI); (try clear aJ); (try clear aK); (try clear aL); (try clear aN); (try clear aO); (try clear aP); (try clear aQ); (try clear aR); (try clear aS); (try clear aT); (try clear aU); (try clear aV); (try clear aW); (try clear aX); (try clear aY); (try clear aZ); (try clear a_); (try clear b0); (try clear b1); (try clear b2); (try clear b3); (try clear b4); (try clear b5); (try clear D); (try clear E); (try clear G); (try clear I); (try clear J); (try clear K); (try clear L); (try clear M); (try clear O); (try clear U); (try clear W); (try clear X); (try clear Y); (try clear Z); (try clear a0); (try clear a1); (try clear a2); (try clear a3); (try clear a4); (try clear a5); (try clear a6); (try clear a7); (try clear a8); (try clear a9); (try clear aa); (try clear ab); (try clear ac); (try clear ad); (try clear ae); (try clear af); (try clear ag); (try clear ah); (try clear ai); (try clear aj); (try clear ak); (try clear al); (try clear am); (try clear an); obtain ⟨kq, x40_7, rfl, HA, HJ7, a, b, l, HB⟩ := hcut
     cases kq with
     | zero => exact absurd HA.out (by simp [lockkeeperref8_Check.j0])
     | succ kj7 =>
      have H := HA.out; clear HA
      simp only [lockkeeperref8_Check.j0] at H
      revert H; refine iteB_ (fun c17 H => ?g7p) (fun c17 H => ?g7n)
      case' g7p =>
       subst c17; obtain rfl := si_ H; have M9_0 := trivial
      case' g7n =>
       subst c17; replace H := bd_ H; obtain ⟨t12, A18, H⟩ := H; revert H; refine iteEF_ (fun bb bc H => ?g8p) (fun c19 bb bc H => ?g8n)
       case' g8p =>
        have HC20 := Aside0.mk H; clear H; have hnb21 := c.out; have hnc21 := d.out; have hnb22 := i.out; have hnc22 := j.out; obtain ⟨z23_0, z23_1, z23_2, z23_3, z23_4, z23_5, z23_6, z23_7, z23_8, z23_9, be, bf, bg, bh, bi, bj, bk, bl, bm, bn⟩ := bk10_ a; have M9_1 := trivial
       case' g8n =>
        obtain rfl := si_ H; have hnb20 := c.out; have hnc20 := d.out; have hnb21 := i.out; have hnc21 := j.out; obtain ⟨z22_0, z22_1, z22_2, z22_3, z22_4, z22_5, z22_6, z22_7, z22_8, z22_9, zf22_0, zf22_1, zf22_2, zf22_3, zf22_4, zf22_5, zf22_6, zf22_7, zf22_8, zf22_9⟩ := bk10_ a; have M9_0 := trivial
      all_goals
       first
       | clear M9_0
         go_wp2_with (first | ((with_reducible refine gate_callee (f := 53) rfl ?_); refine gL _ Tryz.func53 _ ((lockkeeperref6_Check.calls kj7 _ _ m t12 _ ?side1 ?side2 A18.out).mono ?_); (case side1 => exact cE); (case side2 => exact HC1_5.out); rintro e w' ⟨rfl, ⟨nd, rfl⟩⟩; refine ⟨_, rfl, ?_⟩)); go_ret; exact ⟨rE, bE⟩
       | clear M9_1
         go_upto_region 15 with (first | ((with_reducible refine gate_callee (f := 53) rfl ?_); refine gL _ Tryz.func53 _ ((lockkeeperref6_Check.calls kj7 _ _ m t12 _ ?side1 ?side2 A18.out).mono ?_); (case side1 => exact cE); (case side2 => exact HC1_5.out); rintro e w' ⟨rfl, ⟨nd, rfl⟩⟩; refine ⟨_, rfl, ?_⟩))
         (try simp only [Act.put, List.setIfInBounds_toArray, List.set_cons_zero, List.set_cons_succ])
         go_cut [47] (fun v9s1 wc => ∃ (kq : Nat) (bo : Bool), v9s1 = .bool bo ∧ Aside0 (lockkeeperref8_Check.j1 kq bo n s q p x m u y z v t1 t4 t5 t6 t7 t2 t9 ar = some r) ∧ Aside0 (kq ≤ kj7) ∧ Aside0 (wc.heap[b9]? = some (.cells #[.string n, .string s, .string q, .int .i64 p, .bool x, (.slice b7 m.length b8), .int .i64 u, .int .u64 y, .int .i64 z, .int .i64 v] 26 (0, 0))) ∧ Aside0 (wc.heap[ap]? = some (.cells #[.string t1, .string t4, .int .i64 t5, .string t6, .string t7] 72 (0, 0))) ∧ Aside0 (wc.heap[aq]? = some (.cells #[.string t2, .string t9, .int .i64 ar] 70 (0, 0))) ∧ Aside0 (Below w.heap.size w wc))
         case first =>
          have H := HC20.out; clear HC20; revert H; refine iteDD_ (fun ao H => ?g10p) (fun ao H => ?g10n)
          case' g10p =>
           (first | rw [ao] | (simp only [i64_w, i32_w]; rw [ao]) | skip); have H' := Aside0.mk H; clear H; have hnb25 := c.out; have hnc25 := d.out; have hnb26 := i.out; have hnc26 := j.out; obtain ⟨z27_0, z27_1, z27_2, z27_3, z27_4, z27_5, z27_6, z27_7, z27_8, z27_9, zf27_0, zf27_1, zf27_2, zf27_3, zf27_4, zf27_5, zf27_6, zf27_7, zf27_8, zf27_9⟩ := bk10_ a; have M11_0 := trivial
          case' g10n =>
           (first | rw [ao] | (simp only [i64_w, i32_w]; rw [ao]) | skip); have H' := Aside0.mk H; clear H; have hnb25 := c.out; have hnc25 := d.out; have hnb26 := i.out; have hnc26 := j.out; obtain ⟨z27_0, z27_1, z27_2, z27_3, z27_4, z27_5, z27_6, z27_7, z27_8, z27_9, zf27_0, zf27_1, zf27_2, zf27_3, zf27_4, zf27_5, zf27_6, zf27_7, zf27_8, zf27_9⟩ := bk10_ a; have M11_1 := trivial
          all_goals
           go_wp2; go_meet
           first
           | clear M11_0
             case rel => exact ⟨_, (true), rS, H', ⟨by have := HJ7.out; first | omega | exact Nat.le_refl _⟩, ⟨kC a⟩, ⟨kC b⟩, ⟨kC l⟩, ⟨bE⟩⟩
           | clear M11_1
             case rel => exact ⟨_, (decide (u > 6)), rS, H', ⟨by have := HJ7.out; first | omega | exact Nat.le_refl _⟩, ⟨kC a⟩, ⟨kC b⟩, ⟨kC l⟩, ⟨bE⟩⟩
         case rest =>
          clear HC20; (try clear c3); (try clear bs); (try clear bu); (try clear c5); (try clear bv); (try clear bw); (try clear c7); (try clear bx); (try clear bB); (try clear c17); (try clear c19); (try clear bb); (try clear bc); (try clear ao); (try clear au); (try clear av); (try clear aw); (try clear ax); (try clear ay); (try clear az); (try clear aA); (try clear aB); (try clear aC); (try clear aD); (try clear aE); (try clear aF); (try clear aG); (try clear aH); (try clear aI); (try clear aJ); (try clear aK); (try clear aL); (try clear aN); (try clear aO); (try clear aP); (try clear aQ); (try clear aR); (try clear aS); (try clear aT); (try clear aU); (try clear aV); (try clear aW); (try clear aX); (try clear aY); (try clear aZ); (try clear a_); (try clear b0); (try clear b1); (try clear b2); (try clear b3); (try clear b4); (try clear b5); (try clear z23_0); (try clear z23_1); (try clear z23_2); (try clear z23_3); (try clear z23_4); (try clear z23_5); (try clear z23_6); (try clear z23_7); (try clear z23_8); (try clear z23_9); (try clear D); (try clear E); (try clear G); (try clear I); (try clear J); (try clear K); (try clear L); (try clear M); (try clear O); (try clear U); (try clear W); (try clear X); (try clear Y); (try clear Z); (try clear a0); (try clear a1); (try clear a2); (try clear a3); (try clear a4); (try clear a5); (try clear a6); (try clear a7); (try clear a8); (try clear a9); (try clear aa); (try clear ab); (try clear ac); (try clear ad); (try clear ae); (try clear af); (try clear ag); (try clear ah); (try clear ai); (try clear aj); (try clear ak); (try clear al); (try clear am); (try clear an); (try clear be); (try clear bf); (try clear bg); (try clear bh); (try clear bi); (try clear bj); (try clear bk); (try clear bl); (try clear bm); (try clear bn); obtain ⟨kq, bo, rfl, HA, HJ32, a, b, l, HB⟩ := hcut
          cases kq with
          | zero => exact absurd HA.out (by simp [lockkeeperref8_Check.j1])
          | succ kj32 =>
           have H := HA.out; clear HA
           simp only [lockkeeperref8_Check.j1] at H
           revert H; refine iteB_ (fun c31 H => ?g12p) (fun c31 H => ?g12n)
           case' g12p =>
            subst c31; obtain rfl := si_ H; have M14_0 := trivial
           case' g12n =>
            subst c31; revert H; refine iteGG_ (fun c32b0 H => ?g13p) (fun c32b0 H => ?g13n)
            case' g13p =>
             obtain rfl := si_ H; have hnb33 := c.out; have hnc33 := d.out; have hnb34 := i.out; have hnc34 := j.out; obtain ⟨z35_0, z35_1, z35_2, z35_3, z35_4, z35_5, z35_6, z35_7, z35_8, z35_9, zf35_0, zf35_1, zf35_2, zf35_3, zf35_4, zf35_5, zf35_6, zf35_7, zf35_8, zf35_9⟩ := bk10_ a; have M14_0 := trivial
            case' g13n =>
             have HC33 := Aside0.mk H; clear H; have hnb34 := c.out; have hnc34 := d.out; have hnb35 := i.out; have hnc35 := j.out; obtain ⟨z36_0, z36_1, z36_2, z36_3, z36_4, z36_5, z36_6, z36_7, z36_8, z36_9, zf36_0, zf36_1, zf36_2, zf36_3, zf36_4, zf36_5, zf36_6, zf36_7, zf36_8, zf36_9⟩ := bk10_ a; have M14_1 := trivial
           all_goals
            first
            | clear M14_0
              go_wp2; go_ret; exact ⟨rE, bE⟩
            | clear M14_1
              go_upto_region 19 with (first | (fail))
              go_cut [60] (fun v13s1 wc => ∃ (kq : Nat) (bp : Bool), v13s1 = .bool bp ∧ Aside0 (lockkeeperref8_Check.j2 kq bp n s q p x m u y z v t1 t4 t5 t6 t7 t2 t9 ar = some r) ∧ Aside0 (kq ≤ kj32) ∧ Aside0 (wc.heap[b9]? = some (.cells #[.string n, .string s, .string q, .int .i64 p, .bool x, (.slice b7 m.length b8), .int .i64 u, .int .u64 y, .int .i64 z, .int .i64 v] 26 (0, 0))) ∧ Aside0 (wc.heap[ap]? = some (.cells #[.string t1, .string t4, .int .i64 t5, .string t6, .string t7] 72 (0, 0))) ∧ Aside0 (wc.heap[aq]? = some (.cells #[.string t2, .string t9, .int .i64 ar] 70 (0, 0))) ∧ Aside0 (Below w.heap.size w wc))
              case first =>
               have H := HC33.out; clear HC33; revert H; refine iteDD_ (fun ba H => ?g15p) (fun ba H => ?g15n)
               case' g15p =>
                (first | rw [ba] | (simp only [i64_w, i32_w]; rw [ba]) | skip); have H' := Aside0.mk H; clear H; have hnb38 := c.out; have hnc38 := d.out; have hnb39 := i.out; have hnc39 := j.out; obtain ⟨z40_0, z40_1, z40_2, z40_3, z40_4, z40_5, z40_6, z40_7, z40_8, z40_9, zf40_0, zf40_1, zf40_2, zf40_3, zf40_4, zf40_5, zf40_6, zf40_7, zf40_8, zf40_9⟩ := bk10_ a; have M16_0 := trivial
               case' g15n =>
                (first | rw [ba] | (simp only [i64_w, i32_w]; rw [ba]) | skip); have H' := Aside0.mk H; clear H; have hnb38 := c.out; have hnc38 := d.out; have hnb39 := i.out; have hnc39 := j.out; obtain ⟨z40_0, z40_1, z40_2, z40_3, z40_4, z40_5, z40_6, z40_7, z40_8, z40_9, zf40_0, zf40_1, zf40_2, zf40_3, zf40_4, zf40_5, zf40_6, zf40_7, zf40_8, zf40_9⟩ := bk10_ a; have M16_1 := trivial
               all_goals
                go_wp2; go_meet
                first
                | clear M16_0
                  case rel => exact ⟨_, (true), rS, H', ⟨by have := HJ7.out; have := HJ32.out; first | omega | exact Nat.le_refl _⟩, ⟨kC a⟩, ⟨kC b⟩, ⟨kC l⟩, ⟨bE⟩⟩
                | clear M16_1
                  case rel => exact ⟨_, (decide (v < 0)), rS, H', ⟨by have := HJ7.out; have := HJ32.out; first | omega | exact Nat.le_refl _⟩, ⟨kC a⟩, ⟨kC b⟩, ⟨kC l⟩, ⟨bE⟩⟩
              case rest =>
               clear HC33; (try clear c3); (try clear bs); (try clear bu); (try clear c5); (try clear bv); (try clear bw); (try clear c7); (try clear bx); (try clear bB); (try clear c17); (try clear c19); (try clear bb); (try clear bc); (try clear ao); (try clear c31); (try clear c32b0); (try clear au); (try clear av); (try clear aw); (try clear ax); (try clear ay); (try clear az); (try clear aA); (try clear aB); (try clear aC); (try clear aD); (try clear aE); (try clear aF); (try clear aG); (try clear aH); (try clear aI); (try clear aJ); (try clear aK); (try clear aL); (try clear aN); (try clear aO); (try clear aP); (try clear aQ); (try clear aR); (try clear aS); (try clear aT); (try clear aU); (try clear aV); (try clear aW); (try clear aX); (try clear aY); (try clear aZ); (try clear a_); (try clear b0); (try clear b1); (try clear b2); (try clear b3); (try clear b4); (try clear b5); (try clear z23_0); (try clear z23_1); (try clear z23_2); (try clear z23_3); (try clear z23_4); (try clear z23_5); (try clear z23_6); (try clear z23_7); (try clear z23_8); (try clear z23_9); (try clear z36_0); (try clear z36_1); (try clear z36_2); (try clear z36_3); (try clear z36_4); (try clear z36_5); (try clear z36_6); (try clear z36_7); (try clear z36_8); (try clear z36_9); (try clear D); (try clear E); (try clear G); (try clear I); (try clear J); (try clear K); (try clear L); (try clear M); (try clear O); (try clear U); (try clear W); (try clear X); (try clear Y); (try clear Z); (try clear a0); (try clear a1); (try clear a2); (try clear a3); (try clear a4); (try clear a5); (try clear a6); (try clear a7); (try clear a8); (try clear a9); (try clear aa); (try clear ab); (try clear ac); (try clear ad); (try clear ae); (try clear af); (try clear ag); (try clear ah); (try clear ai); (try clear aj); (try clear ak); (try clear al); (try clear am); (try clear an); (try clear be); (try clear bf); (try clear bg); (try clear bh); (try clear bi); (try clear bj); (try clear bk); (try clear bl); (try clear bm); (try clear bn); (try clear zf36_0); (try clear zf36_1); (try clear zf36_2); (try clear zf36_3); (try clear zf36_4); (try clear zf36_5); (try clear zf36_6); (try clear zf36_7); (try clear zf36_8); (try clear zf36_9); obtain ⟨kq, bp, rfl, HA, HJ48, a, b, l, HB⟩ := hcut
               cases kq with
               | zero => exact absurd HA.out (by simp [lockkeeperref8_Check.j2])
               | succ kj48 =>
                have H := HA.out; clear HA
                simp only [lockkeeperref8_Check.j2] at H
                revert H; refine iteB_ (fun c47 H => ?g17p) (fun c47 H => ?g17n)
                case' g17p =>
                 subst c47; obtain rfl := si_ H; have M18_0 := trivial
                case' g17n =>
                 subst c47; have HC48 := Aside0.mk H; clear H; have M18_1 := trivial
                all_goals
                 first
                 | clear M18_0
                   go_wp2; go_ret; exact ⟨rE, bE⟩
                 | clear M18_1
                   go_upto_region 21 with (first | (fail))
                   go_cut [69] (fun v17s1 wc => ∃ (kq : Nat) (bq : Bool), v17s1 = .bool bq ∧ Aside0 (lockkeeperref8_Check.j3 kq bq n s q p x m u y z v = some r) ∧ Aside0 (kq ≤ kj48) ∧ Aside0 (wc.heap[b9]? = some (.cells #[.string n, .string s, .string q, .int .i64 p, .bool x, (.slice b7 m.length b8), .int .i64 u, .int .u64 y, .int .i64 z, .int .i64 v] 26 (0, 0))) ∧ Aside0 (wc.heap[ap]? = some (.cells #[.string t1, .string t4, .int .i64 t5, .string t6, .string t7] 72 (0, 0))) ∧ Aside0 (wc.heap[aq]? = some (.cells #[.string t2, .string t9, .int .i64 ar] 70 (0, 0))) ∧ Aside0 (Below w.heap.size w wc))
                   case first =>
                    have H := HC48.out; clear HC48; revert H; refine iteEF_ (fun b6 c49b1 H => ?g19p) (fun c49 b6 c49b1 H => ?g19n)
                    case' g19p =>
                     (first | rw [b6] | (simp only [i64_w, i32_w]; rw [b6]) | skip); have H' := Aside0.mk H; clear H; have hnb50 := c.out; have hnc50 := d.out; have hnb51 := i.out; have hnc51 := j.out; obtain ⟨z52_0, z52_1, z52_2, z52_3, z52_4, z52_5, z52_6, z52_7, z52_8, z52_9, zf52_0, zf52_1, zf52_2, zf52_3, zf52_4, zf52_5, zf52_6, zf52_7, zf52_8, zf52_9⟩ := bk10_ a; have hnb53 := A.out; have hnc53 := B.out; obtain ⟨z54_0, z54_1, z54_2, z54_3, z54_4, zf54_0, zf54_1, zf54_2, zf54_3, zf54_4⟩ := bk5_ b; obtain ⟨z55_0, z55_1, z55_2, zf55_0, zf55_1, zf55_2⟩ := bk3_ l; have M20_0 := trivial
                    case' g19n =>
                     (first | rw [b6] | (simp only [i64_w, i32_w]; rw [b6]) | skip); have H' := Aside0.mk H; clear H; have hnb50 := c.out; have hnc50 := d.out; have hnb51 := i.out; have hnc51 := j.out; obtain ⟨z52_0, z52_1, z52_2, z52_3, z52_4, z52_5, z52_6, z52_7, z52_8, z52_9, zf52_0, zf52_1, zf52_2, zf52_3, zf52_4, zf52_5, zf52_6, zf52_7, zf52_8, zf52_9⟩ := bk10_ a; have M20_1 := trivial
                    all_goals
                     go_wp2; go_meet
                     first
                     | clear M20_0
                       case rel => exact ⟨_, ((!(t1.toList == t2.toList) || (!(t4.toList == t9.toList) || (!(t5 == ar))))), rS, H', ⟨by have := HJ7.out; have := HJ32.out; have := HJ48.out; first | omega | exact Nat.le_refl _⟩, ⟨kC a⟩, ⟨kC b⟩, ⟨kC l⟩, ⟨bE⟩⟩
                     | clear M20_1
                       case rel => exact ⟨_, (false), rS, H', ⟨by have := HJ7.out; have := HJ32.out; have := HJ48.out; first | omega | exact Nat.le_refl _⟩, ⟨kC a⟩, ⟨kC b⟩, ⟨kC l⟩, ⟨bE⟩⟩
                   case rest =>
                    clear HC48; (try clear c3); (try clear bs); (try clear bu); (try clear c5); (try clear bv); (try clear bw); (try clear c7); (try clear bx); (try clear bB); (try clear c17); (try clear c19); (try clear bb); (try clear bc); (try clear ao); (try clear c31); (try clear c32b0); (try clear c47); (try clear c49); (try clear b6); (try clear c49b1); (try clear au); (try clear av); (try clear aw); (try clear ax); (try clear ay); (try clear az); (try clear aA); (try clear aB); (try clear aC); (try clear aD); (try clear aE); (try clear aF); (try clear aG); (try clear aH); (try clear aI); (try clear aJ); (try clear aK); (try clear aL); (try clear aN); (try clear aO); (try clear aP); (try clear aQ); (try clear aR); (try clear aS); (try clear aT); (try clear aU); (try clear aV); (try clear aW); (try clear aX); (try clear aY); (try clear aZ); (try clear a_); (try clear b0); (try clear b1); (try clear b2); (try clear b3); (try clear b4); (try clear b5); (try clear z23_0); (try clear z23_1); (try clear z23_2); (try clear z23_3); (try clear z23_4); (try clear z23_5); (try clear z23_6); (try clear z23_7); (try clear z23_8); (try clear z23_9); (try clear z36_0); (try clear z36_1); (try clear z36_2); (try clear z36_3); (try clear z36_4); (try clear z36_5); (try clear z36_6); (try clear z36_7); (try clear z36_8); (try clear z36_9); (try clear z55_0); (try clear z55_1); (try clear z55_2); (try clear D); (try clear E); (try clear G); (try clear I); (try clear J); (try clear K); (try clear L); (try clear M); (try clear O); (try clear U); (try clear W); (try clear X); (try clear Y); (try clear Z); (try clear a0); (try clear a1); (try clear a2); (try clear a3); (try clear a4); (try clear a5); (try clear a6); (try clear a7); (try clear a8); (try clear a9); (try clear aa); (try clear ab); (try clear ac); (try clear ad); (try clear ae); (try clear af); (try clear ag); (try clear ah); (try clear ai); (try clear aj); (try clear ak); (try clear al); (try clear am); (try clear an); (try clear be); (try clear bf); (try clear bg); (try clear bh); (try clear bi); (try clear bj); (try clear bk); (try clear bl); (try clear bm); (try clear bn); (try clear zf36_0); (try clear zf36_1); (try clear zf36_2); (try clear zf36_3); (try clear zf36_4); (try clear zf36_5); (try clear zf36_6); (try clear zf36_7); (try clear zf36_8); (try clear zf36_9); (try clear zf55_0); (try clear zf55_1); (try clear zf55_2); obtain ⟨kq, bq, rfl, HA, HJ60, a, b, l, HB⟩ := hcut
                    cases kq with
                    | zero => exact absurd HA.out (by simp [lockkeeperref8_Check.j3])
                    | succ kj60 =>
                     have H := HA.out; clear HA
                     simp only [lockkeeperref8_Check.j3] at H
                     revert H; refine iteB_ (fun c59 H => ?g21p) (fun c59 H => ?g21n)
                     case' g21p =>
                      subst c59; obtain rfl := si_ H
                     case' g21n =>
                      subst c59; revert H; refine iteEF_ (fun c60b0 c60b1 H => ?g22p) (fun c60 c60b0 c60b1 H => ?g22n)
                      case' g22p =>
                       replace H := bd_ H; obtain ⟨t13, A61, H⟩ := H; revert H; refine iteB_ (fun c62 H => ?g23p) (fun c62 H => ?g23n)
                       case' g23p =>
                        subst c62; replace H := bd_ H; obtain ⟨t14, A63, H⟩ := H; revert H; refine itePP_ (fun c65 H => ?g24p) (fun c65 H => ?g24n)
                        case' g24p =>
                         have c65b0 : decide (0 < (t14.length : Int)) = true := decide_eq_true c65; have c65b1 : decide (0 < t14.length) = true := decide_eq_true (by omega); clear c65; obtain rfl := si_ H; have hnb66 := c.out; have hnc66 := d.out; have hnb67 := i.out; have hnc67 := j.out; obtain ⟨z68_0, z68_1, z68_2, z68_3, z68_4, z68_5, z68_6, z68_7, z68_8, z68_9, zf68_0, zf68_1, zf68_2, zf68_3, zf68_4, zf68_5, zf68_6, zf68_7, zf68_8, zf68_9⟩ := bk10_ a
                        case' g24n =>
                         have c65b0 : decide (0 < (t14.length : Int)) = false := decide_eq_false c65; have c65b1 : decide (0 < t14.length) = false := decide_eq_false (by omega); clear c65; obtain rfl := si_ H; have hnb66 := c.out; have hnc66 := d.out; have hnb67 := i.out; have hnc67 := j.out; obtain ⟨z68_0, z68_1, z68_2, z68_3, z68_4, z68_5, z68_6, z68_7, z68_8, z68_9, zf68_0, zf68_1, zf68_2, zf68_3, zf68_4, zf68_5, zf68_6, zf68_7, zf68_8, zf68_9⟩ := bk10_ a
                       case' g23n =>
                        subst c62; obtain rfl := si_ H; have hnb63 := c.out; have hnc63 := d.out; have hnb65 := i.out; have hnc65 := j.out; obtain ⟨z66_0, z66_1, z66_2, z66_3, z66_4, z66_5, z66_6, z66_7, z66_8, z66_9, zf66_0, zf66_1, zf66_2, zf66_3, zf66_4, zf66_5, zf66_6, zf66_7, zf66_8, zf66_9⟩ := bk10_ a
                      case' g22n =>
                       obtain rfl := si_ H; have hnb61 := c.out; have hnc61 := d.out; have hnb62 := i.out; have hnc62 := j.out; obtain ⟨z63_0, z63_1, z63_2, z63_3, z63_4, z63_5, z63_6, z63_7, z63_8, z63_9, zf63_0, zf63_1, zf63_2, zf63_3, zf63_4, zf63_5, zf63_6, zf63_7, zf63_8, zf63_9⟩ := bk10_ a
                     all_goals
                      go_wp2_with (first | (go_at_call 54; (with_reducible refine (lockkeeperref5_Safe.calls n _ _ A61.out).mono ?_); rintro e w9a1 ⟨rfl, hb⟩; replace a := kM a hb; replace b := kM b hb; replace l := kM l hb; replace HB := bS bE hb; (try clear hb); obtain ⟨z9a2_0, z9a2_1, z9a2_2, z9a2_3, z9a2_4, z9a2_5, z9a2_6, z9a2_7, z9a2_8, z9a2_9, zf9a2_0, zf9a2_1, zf9a2_2, zf9a2_3, zf9a2_4, zf9a2_5, zf9a2_6, zf9a2_7, zf9a2_8, zf9a2_9⟩ := bk10_ a) | (go_at_call 55; (with_reducible refine (lockkeeperref7_Names.calls kj60 _ _ m t14 _ ?side1 ?side2 A63.out).mono ?_); (case side1 => exact cE); (case side2 => exact HC1_5.out); rintro e w10a1 ⟨v10a2, rfl, ho10a3, hb⟩; have n0_ := Aside0.mk (Kd.R_lower ho10a3 (below_size bE)); have n1_ := kM a hb; have n2_ := kM b hb; have n3_ := kM l hb; have n4_ := bS bE hb; clear a; clear b; clear l; clear HB; have HO10a4 := n0_; have a := n1_; have b := n2_; have l := n3_; have HB := n4_; clear n0_ n1_ n2_ n3_ n4_; (try clear hb); (try clear hb2); (try clear hk); (try clear hi); (try clear ho10a3); obtain ⟨Ao10a5, co10a5, eo10a5⟩ := Kd.R_slice HO10a4.out; subst eo10a5)); go_ret; exact ⟨rE, bE⟩
  | clear M4_1
    go_wp2_with (first | ((with_reducible refine gate_dst (N := 1) rfl ?_); (try (refine gate_guard (by rfl) ?_; dsimp only)); refine bxE (N := 1) (cs := #[.string n, .string s, .string q, .int .i64 p, .bool x, .slice b7 m.length b8, .int .i64 u, .int .u64 y, .int .i64 z, .int .i64 v]) (t := 26) fun b9 hg w1a2 hbox hb => ?_; obtain ⟨HB', a, GW1a1⟩ := bx_ bE hg hbox hb; have GE1a1 := GW1a1; clear HB hb hbox hg; have HB := HB'; clear HB'; obtain ⟨au, av, aw, ax, ay, az, aA, aB, aC, aD, D, E, G, I, J, K, L, M, O, U⟩ := bk10_ a) | ((with_reducible refine gate_callee (f := 50) rfl ?_); refine gL _ Tryz.func50 _ ((lockkeeperref4_Parse.calls k s t1 t4 t5 t6 t7 _ _ A2.out).mono ?_); rintro e w2a1 ⟨rfl, hb⟩; refine ⟨_, rfl, ?_⟩; replace a := kM a hb; replace HB := bS bE hb; (try clear hb)) | ((with_reducible refine gate_dst (N := 3) rfl ?_); (try (refine gate_guard (by rfl) ?_; dsimp only)); refine bxE (N := 3) (cs := #[.string ⟨#[]⟩, .string ⟨#[]⟩, .int .i64 0, .string ⟨#[]⟩, .string ⟨#[]⟩]) (t := 72) fun ap hg w3a2 hbox hb => ?_; have b := Aside0.mk (hbox); have GW3a1 := sE (w := w) hg; have GE3a1 := sE (w := w) hg; have c := neL a hg; have d := neG a hg; replace a := kM a hb; replace HB := bS bE hb; clear hb hbox hg; have hnb3a3 := d.out; have hnc3a3 := c.out; obtain ⟨aE, aF, aG, aH, aI, W, X, Y, Z, a0⟩ := bk5_ b; obtain ⟨aJ, aK, aL, aN, aO, aP, aQ, aR, aS, aT, a1, a2, a3, a4, a5, a6, a7, a8, a9, aa⟩ := bk10_ a) | ((with_reducible refine gate_callee (f := 51) rfl ?_); refine gL _ Tryz.func51 _ ((lockkeeperref3_Parse.calls k q t2 t9 ar _ _ A4.out).mono ?_); rintro e w4a1 ⟨rfl, hb⟩; refine ⟨_, rfl, ?_⟩; have n0_ := kF a hb; have n1_ := Aside0.mk (blk_below (g := ap) (o := .cells #[.string t1, .string t4, .int .i64 t5, .string t6, .string t7] 72 (0, 0)) (kT) hb); have n2_ := bS bE hb; clear a; clear b; clear HB; have a := n0_; have b := n1_; have HB := n2_; clear n0_ n1_ n2_; (try clear hb); (try clear hb2); (try clear hk); (try clear hi)) | ((with_reducible refine gate_dst (N := 5) rfl ?_); (try (refine gate_guard (by rfl) ?_; dsimp only)); refine bxE (N := 5) (cs := #[.string ⟨#[]⟩, .string ⟨#[]⟩, .int .i64 0]) (t := 70) fun aq hg w5a2 hbox hb => ?_; have l := Aside0.mk (hbox); have GW5a1 := sE (w := w) hg; have GE5a1 := sE (w := w) hg; have i := neL a hg; have j := neG a hg; have A := neL b hg; have B := neG b hg; replace a := kM a hb; replace b := kM b hb; replace HB := bS bE hb; clear hb hbox hg; have hnb5a3 := j.out; have hnc5a3 := i.out; have hnb5a4 := B.out; have hnc5a4 := A.out; obtain ⟨aU, aV, aW, ab, ac, ad⟩ := bk3_ l; obtain ⟨aX, aY, aZ, a_, b0, b1, b2, b3, b4, b5, ae, af, ag, ah, ai, aj, ak, al, am, an⟩ := bk10_ a) | ((with_reducible refine gate_callee (f := 52) rfl ?_); refine gL _ Tryz.func52 _ ((lockkeeperref5_Check.calls k n _ _ A6.out).mono ?_); rintro e w6a1 ⟨rfl, hb⟩; refine ⟨_, rfl, ?_⟩; have n0_ := kF a hb; have n1_ := kF b hb; have n2_ := Aside0.mk (blk_below (g := aq) (o := .cells #[.string t2, .string t9, .int .i64 ar] 70 (0, 0)) (kT) hb); have n3_ := bS bE hb; clear a; clear b; clear l; clear HB; have a := n0_; have b := n1_; have l := n2_; have HB := n3_; clear n0_ n1_ n2_ n3_; (try clear hb); (try clear hb2); (try clear hk); (try clear hi))); go_ret; exact ⟨rE, bE⟩
end Go.Proofs.YtfmajangcbgooaaGreatDoor.Pr
