import Derived.Test.YtfmajangcbgooaaGreatDoorPr0
import Derived.Test.YtfmajangcbgooaaGreatDoorK0
import Derived.Test.YtfmajangcbgooaaGreatDoorPr5
import Derived.Test.YtfmajangcbgooaaGreatDoorPr6
import Derived.Test.YtfmajangcbgooaaGreatDoorPr1
import Derived.Test.YtfmajangcbgooaaGreatDoorPr12
import Derived.Test.YtfmajangcbgooaaGreatDoorG5
import Derived.Test.YtfmajangcbgooaaGreatDoorPr4
import Derived.Test.YtfmajangcbgooaaGreatDoorG1
namespace Go.Proofs.YtfmajangcbgooaaGreatDoor.Pr
open Go.RowKit Go.Proofs.YtfmajangcbgooaaGreatDoorW.PrintWords Go.Proofs.YtfmajangcbgooaaGreatDoorW.PrintLast Go.Proofs.YtfmajangcbgooaaGreatDoorW.PrintMore
attribute [local go_sem] max2_int min2_int max_two min_two max_three min_three max_four min_four
set_option linter.unusedVariables false
set_option maxHeartbeats 64000000
set_option maxRecDepth 100000
set_option linter.unusedSimpArgs false
def target_Check.j0 : Nat → Bool → ByteArray → ByteArray → Int → ByteArray → ByteArray → Option (Bool)
 | 0, _, _, _, _, _, _ => none
 | k + 1, p, a, b, c, e, d => if d.toList = ([] : List UInt8) then ((origin_Check.f k a b c).bind fun g => (if g = true then (if p = true then ((target_show.f k a b c e d).bind fun i => (some (decide ((i.size : Int) ≤ 512)))) else (some false)) else (some false))) else ((strings_HasPrefix.f d (⟨#[63]⟩ : ByteArray)).bind fun j => (if j = true then ((target_all.f k d (⟨#[34, 35, 60, 62]⟩ : ByteArray)).bind fun l => ((origin_Check.f k a b c).bind fun m => (if m = true then (if p = true then (if l = true then ((target_show.f k a b c e d).bind fun n => (some (decide ((n.size : Int) ≤ 512)))) else (some false)) else (some false)) else (some false)))) else ((origin_Check.f k a b c).bind fun o => (if o = true then (if p = true then (some false) else (some false)) else (some false)))))
def target_Check.f (k : Nat) (b c : ByteArray) (d : Int) (a e : ByteArray) : Option (Bool) := (strings_HasPrefix.f a (⟨#[47]⟩ : ByteArray)).bind fun g => (if g = true then ((target_all.f k a (⟨#[34, 35, 60, 62, 63, 92, 94, 123, 124, 125, 96]⟩ : ByteArray)).bind fun i => (if i = true then ((target_Clean.f k a).bind fun j => (target_Check.j0 k (j.toList == a.toList) b c d a e)) else (target_Check.j0 k false b c d a e))) else (target_Check.j0 k false b c d a e))
theorem target_Check.mono_l : ∀ k, (∀ a b c d e g, LeO (target_Check.j0 k a b c d e g) (target_Check.j0 (k + 1) a b c d e g))
 | 0 => fun _ _ _ _ _ _ r h => by simp [target_Check.j0] at h
 | k + 1 => by
  have ih0 := target_Check.mono_l k
  ·intros
   have i := @origin_Check.mono; have j := @target_Clean.mono; have l := @target_all.mono; have m := @target_show.mono; unfold target_Check.j0
   exact moE
theorem target_Check.mono : ∀ a b c d e k, LeO (target_Check.f k a b c d e) (target_Check.f (k + 1) a b c d e) := by
 intro a b c d e k
 have ih0 := target_Check.mono_l k
 have g := @origin_Check.mono; have i := @target_Clean.mono; have j := @target_all.mono; have l := @target_show.mono; unfold target_Check.f
 exact moE
def target_Check.T1 : Bool × List (List Nat × List Nat) := (true, [([], []), ([0], [0]), ([1], [1]), ([2, 2], [2]), ([3], [3]), ([4, 3], [3, 4]), ([5, 3, 3], [3, 5]), ([3, 6], [3, 6]), ([7, 6], [7]), ([8], [8]), ([9, 8], [8, 9]), ([10, 8, 8], [8, 10]), ([8], [8]), ([12, 8], [8, 12]), ([11, 13, 8], [8, 11, 13]), ([8, 14], [8, 14]), ([15, 11, 0, 1, 2, 3, 4, 5, 6, 7, 8, 9, 10, 11, 12, 13, 14, 15], [15])])
def target_Check.B1 : List Nat := [0, 1, 3, 7, 15, 31, 63, 127, 255, 511, 1023, 2047, 511, 4607, 16383, 32767, 65535]
theorem target_Check.tab1 : rtab .any (opsOf Tryz.f117 1) = target_Check.T1 := by kernel_rfl
theorem target_Check.bits1 : waitsOk target_Check.T1.2 target_Check.B1 = true := by kernel_rfl
theorem target_Check.calls (k : Nat) (c d : ByteArray) (g : Int) (b i : ByteArray) (r : Bool) (w : World) (hM_ : Aside0 (LaidW w)) (h : target_Check.f k c d g b i = some r) :
  Calls Tryz.prog 117 #[.agg #[.string c, .string d, .int .i64 g, .string b, .string i]] w fun e w' => e = .returned (.bool r) ∧ Below w.heap.size w w' := by
 have hu72 := Tryz.underlying72; have hu70 := Tryz.underlying70; have HB := Aside0.mk (Below.refl w.heap.size w); have H := h; clear h; unfold target_Check.f at H; have M := Aside0.mk H; clear H; go_enter Tryz.func117, Tryz.ntmps117
 go_upto_region 1 with (first | ((with_reducible refine gate_dst (N := 1) rfl ?_); (try (refine gate_guard (by rfl) ?_; dsimp only)); refine bxE (N := 1) (cs := #[.string c, .string d, .int .i64 g, .string b, .string i]) (t := 72) fun j hg a5 hbox hb => ?_; obtain ⟨HB', a, O⟩ := bx_ bE hg hbox hb; have aY := O; clear HB hb hbox hg; have HB := HB'; clear HB'))
 (try simp only [Act.put, List.setIfInBounds_toArray, List.set_cons_zero, List.set_cons_succ])
 go_cut [3] (fun a6 wc => ∃ (kq : Nat) (v : Bool), a6 = .bool v ∧ Aside0 (target_Check.j0 kq v c d g b i = some r) ∧ Aside0 (kq ≤ k) ∧ Aside0 (wc.heap[j]? = some (.cells #[.string c, .string d, .int .i64 g, .string b, .string i] 72 (0, 0))) ∧ Aside0 (Below w.heap.size w wc))
 case first =>
  have H := M.out; clear M; replace H := bd_ H; obtain ⟨t1, A2, H⟩ := H; revert H; refine iteB_ (fun c3 H => ?g1p) (fun c3 H => ?g1n)
  case' g1p =>
   subst c3; replace H := bd_ H; obtain ⟨t2, A4, H⟩ := H; revert H; refine iteB_ (fun c5 H => ?g2p) (fun c5 H => ?g2n)
   case' g2p =>
    subst c5; replace H := bd_ H; obtain ⟨t3, A6, H⟩ := H; have H' := Aside0.mk H; clear H; have L := trivial; have a7 := trivial
   case' g2n =>
    subst c5; have H' := Aside0.mk H; clear H; have L := trivial; have a8 := trivial
  case' g1n =>
   subst c3; have H' := Aside0.mk H; clear H; have a9 := trivial
  all_goals
   try go_wp2
   have n0_ := Aside0.mk (blk_drew a.out); have n1_ := Aside0.mk (below_drew1 HB.out); clear a; clear HB; have a := n0_; have HB := n1_; clear n0_ n1_; refine start_ (n := 17) (S := fun w' => w'.cell? ⟨j, 0, none⟩ = some (.string c) ∧ w'.cell? ⟨j, 1, none⟩ = some (.string d) ∧ w'.cell? ⟨j, 2, none⟩ = some (.int .i64 g) ∧ w'.cell? ⟨j, 3, none⟩ = some (.string b) ∧ w'.cell? ⟨j, 4, none⟩ = some (.string i)) (ds := []) (bz 17 0) (by kernel_rfl) rfl rfl (bkc5_ a) (fun hHeld => ?_); refine with_tabW target_Check.tab1 target_Check.bits1 (fun HT_ HW_ => ?_); generalize a5.drew = aZ at a HB hHeld ⊢; refine qA 0 5 17 1 ?_; refine tA5 1 6 17 3 ?_; refine oB 2 7 17 7 fun K hK => ?_; refine gS Tryz.func157 #[.string b, .string ⟨#[47]⟩] ?_
   first
   | clear L
     with_reducible refine (strings_HasPrefix.calls b (⟨#[47]⟩ : ByteArray) true _ A2.out).mono ?_
     rintro e w' ⟨rfl, ⟨nd, rfl⟩⟩; refine ⟨_, rfl, ?_⟩; refine hK.out _ _ (bkc5_ a) (fun hHeld => ?_); clear hK K; refine nA 7 ?_; refine qA 3 8 17 15 ?_; refine qA 4 9 17 31 ?_; refine tA5 5 10 17 63 ?_; refine oB 6 11 17 127 fun K hK => ?_; refine gS Tryz.func92 #[.string b, .string ⟨#[34, 35, 60, 62, 63, 92, 94, 123, 124, 125, 96]⟩] ?_
     first
     | clear a7
       with_reducible refine (target_all.calls k b (⟨#[34, 35, 60, 62, 63, 92, 94, 123, 124, 125, 96]⟩ : ByteArray) true _ A4.out).mono ?_
       rintro e w' ⟨rfl, ⟨nd, rfl⟩⟩; refine ⟨_, rfl, ?_⟩; refine hK.out _ _ (bkc5_ a) (fun hHeld => ?_); clear hK K; refine nA 11 ?_; refine qA 7 12 17 255 ?_; refine qA 8 13 17 511 ?_; refine qA 9 14 17 1023 ?_; refine qA 12 17 17 5119 ?_; refine tA5 10 15 17 6143 ?_; refine tA5 13 18 17 14335 ?_; refine oB 11 16 17 16383 fun K hK => ?_; refine gS Tryz.func93 #[.string b] ?_
       with_reducible refine (target_Clean.calls k b t3 _ A6.out).mono ?_
       rintro e a_ ⟨rfl, hb⟩; refine ⟨_, rfl, ?_⟩; replace a := kM a hb; replace HB := bS bE hb; (try clear hb); refine hK.out _ _ (bkc5_ a) (fun hHeld => ?_); clear hK K; refine nA 16 ?_; refine qA 14 19 17 32767 ?_; refine qA 15 20 17 65535 ?_; refine qA 16 3 17 131071 ?_; refine done_ (done_of HT_.out (by kernel_rfl)) ?_
       try go_wp2
       go_meet
       case rel => exact ⟨_, ((t3.toList == b.toList)), rS, H', ⟨oE⟩, ⟨kC a⟩, ⟨bE⟩⟩
     | clear a8
       with_reducible refine (target_all.calls k b (⟨#[34, 35, 60, 62, 63, 92, 94, 123, 124, 125, 96]⟩ : ByteArray) false _ A4.out).mono ?_
       rintro e w' ⟨rfl, ⟨nd, rfl⟩⟩; refine ⟨_, rfl, ?_⟩; refine hK.out _ _ (bkc5_ a) (fun hHeld => ?_); clear hK K; refine nA 11 ?_; refine qA 7 12 17 255 ?_; refine qA 8 13 17 511 ?_; refine qU 9 14 17 1023 ?_; refine qU 10 15 17 2047 ?_; refine qU 11 16 17 4095 ?_; refine qU 12 17 17 8191 ?_; refine qU 13 18 17 16383 ?_; refine qU 14 19 17 32767 ?_; refine qA 15 20 17 65535 ?_; refine qA 16 3 17 131071 ?_; refine done_ (done_of HT_.out (by kernel_rfl)) ?_
       try go_wp2
       go_meet
       case rel => exact ⟨_, (false), rS, H', ⟨oE⟩, ⟨kC a⟩, ⟨bE⟩⟩
   | clear a9
     with_reducible refine (strings_HasPrefix.calls b (⟨#[47]⟩ : ByteArray) false _ A2.out).mono ?_
     rintro e w' ⟨rfl, ⟨nd, rfl⟩⟩; refine ⟨_, rfl, ?_⟩; refine hK.out _ _ (bkc5_ a) (fun hHeld => ?_); clear hK K; refine nA 7 ?_; refine qA 3 8 17 15 ?_; refine qU 4 9 17 31 ?_; refine qU 5 10 17 63 ?_; refine qU 6 11 17 127 ?_; refine qA 7 12 17 255 ?_; refine qA 8 13 17 511 ?_; refine qU 9 14 17 1023 ?_; refine qU 10 15 17 2047 ?_; refine qU 11 16 17 4095 ?_; refine qU 12 17 17 8191 ?_; refine qU 13 18 17 16383 ?_; refine qU 14 19 17 32767 ?_; refine qA 15 20 17 65535 ?_; refine qA 16 3 17 131071 ?_; refine done_ (done_of HT_.out (by kernel_rfl)) ?_
     try go_wp2
     go_meet
     case rel => exact ⟨_, (false), rS, H', ⟨oE⟩, ⟨kC a⟩, ⟨bE⟩⟩
 case rest =>
  clear M; (try clear c3); (try clear c5); obtain ⟨kq, v, rfl, HA, HJ1, a, HB⟩ := hcut
  cases kq with
  | zero => exact absurd HA.out (by simp [target_Check.j0])
  | succ u =>
   have H := HA.out; clear HA
   simp only [target_Check.j0] at H
   revert H; refine iteEF_ (fun aa ab H => ?g5p) (fun c7 aa ab H => ?g5n)
   case' g5p =>
    replace H := bd_ H; obtain ⟨t4, A8, H⟩ := H; revert H; refine iteB_ (fun c9 H => ?g6p) (fun c9 H => ?g6n)
    case' g6p =>
     subst c9; revert H; refine iteB_ (fun c10 H => ?g7p) (fun c10 H => ?g7n)
     case' g7p =>
      subst c10; replace H := bd_ H; obtain ⟨t5, U, H⟩ := H; obtain rfl := si_ H; obtain ⟨W, X, Y, Z, a0, D, E, G, I, J⟩ := bk5_ a
     case' g7n =>
      subst c10; obtain rfl := si_ H; obtain ⟨z11_0, z11_1, z11_2, z11_3, z11_4, am, an, ao, ap, aq⟩ := bk5_ a
    case' g6n =>
     subst c9; obtain rfl := si_ H; obtain ⟨z10_0, z10_1, z10_2, z10_3, z10_4, ar, au, av, aw, ax⟩ := bk5_ a
   case' g5n =>
    replace H := bd_ H; obtain ⟨t4, A8, H⟩ := H; revert H; refine iteB_ (fun c9 H => ?g8p) (fun c9 H => ?g8n)
    case' g8p =>
     subst c9; replace H := bd_ H; obtain ⟨t5, a1, H⟩ := H; replace H := bd_ H; obtain ⟨t6, U, H⟩ := H; revert H; refine iteB_ (fun l H => ?g9p) (fun l H => ?g9n)
     case' g9p =>
      subst l; revert H; refine iteB_ (fun a2 H => ?g10p) (fun a2 H => ?g10n)
      case' g10p =>
       subst a2; revert H; refine iteB_ (fun a3 H => ?g11p) (fun a3 H => ?g11n)
       case' g11p =>
        subst a3; replace H := bd_ H; obtain ⟨t7, A15, H⟩ := H; obtain rfl := si_ H; obtain ⟨z16_0, z16_1, z16_2, z16_3, z16_4, ay, az, aA, aB, aC⟩ := bk5_ a
       case' g11n =>
        subst a3; obtain rfl := si_ H; obtain ⟨z15_0, z15_1, z15_2, z15_3, z15_4, aD, aE, aF, aG, aH⟩ := bk5_ a
      case' g10n =>
       subst a2; obtain rfl := si_ H; obtain ⟨z14_0, z14_1, z14_2, z14_3, z14_4, aI, aJ, aK, aL, aN⟩ := bk5_ a
     case' g9n =>
      subst l; obtain rfl := si_ H; obtain ⟨x, y, z, A, B, m, o, p, q, s⟩ := bk5_ a
    case' g8n =>
     subst c9; replace H := bd_ H; obtain ⟨t5, a1, H⟩ := H; revert H; refine iteB_ (fun a4 H => ?g12p) (fun a4 H => ?g12n)
     case' g12p =>
      subst a4; revert H; refine iteB_ (fun l H => ?g13p) (fun l H => ?g13n)
      case' g13p =>
       subst l; obtain rfl := si_ H; obtain ⟨x, y, z, A, B, m, o, p, q, s⟩ := bk5_ a
      case' g13n =>
       subst l; obtain rfl := si_ H; obtain ⟨x, y, z, A, B, m, o, p, q, s⟩ := bk5_ a
     case' g12n =>
      subst a4; obtain rfl := si_ H; obtain ⟨W, X, Y, Z, a0, D, E, G, I, J⟩ := bk5_ a
   all_goals
    go_wp2_with (first | ((with_reducible refine gate_callee (f := 98) rfl ?_); refine gL _ Tryz.func98 _ ((origin_Check.calls u c d g _ _ A8.out).mono ?_); rintro e w2a1 ⟨rfl, hb⟩; refine ⟨_, rfl, ?_⟩; replace a := kM a hb; replace HB := bS bE hb; (try clear hb); obtain ⟨aO, aP, aQ, aR, aS, ac, ad, ae, af, ag⟩ := bk5_ a) | (go_at_call 94; (with_reducible refine (target_show.calls u c d g b i _ _ ?side1 U.out).mono ?_); (case side1 => exact ⟨lE⟩); rintro e w3a1 ⟨rfl, hb⟩; replace a := kM a hb; replace HB := bS bE hb; (try clear hb)) | (go_at_call 157; (with_reducible refine (strings_HasPrefix.calls i (⟨#[63]⟩ : ByteArray) _ _ A8.out).mono ?_); rintro e w' ⟨rfl, ⟨nd, rfl⟩⟩) | (go_at_call 92; (with_reducible refine (target_all.calls u i (⟨#[34, 35, 60, 62]⟩ : ByteArray) _ _ a1.out).mono ?_); rintro e w' ⟨rfl, ⟨nd, rfl⟩⟩) | ((with_reducible refine gate_callee (f := 98) rfl ?_); refine gL _ Tryz.func98 _ ((origin_Check.calls u c d g _ _ U.out).mono ?_); rintro e w6a1 ⟨rfl, hb⟩; refine ⟨_, rfl, ?_⟩; replace a := kM a hb; replace HB := bS bE hb; (try clear hb); obtain ⟨aT, aU, aV, aW, aX, ah, ai, aj, ak, al⟩ := bk5_ a) | (go_at_call 94; (with_reducible refine (target_show.calls u c d g b i _ _ ?side1 A15.out).mono ?_); (case side1 => exact ⟨lE⟩); rintro e w7a1 ⟨rfl, hb⟩; replace a := kM a hb; replace HB := bS bE hb; (try clear hb)) | ((with_reducible refine gate_callee (f := 98) rfl ?_); refine gL _ Tryz.func98 _ ((origin_Check.calls u c d g _ _ a1.out).mono ?_); rintro e w8a1 ⟨rfl, hb⟩; refine ⟨_, rfl, ?_⟩; replace a := kM a hb; replace HB := bS bE hb; (try clear hb))); go_ret; exact ⟨rE, bE⟩
def target_Show.f (k : Nat) (a b : ByteArray) (c : Int) (d e : ByteArray) : Option (ByteArray) := (target_Check.f k a b c d e).bind fun g => (if g = true then ((target_show.f k a b c d e).bind fun i => (some i)) else (some (⟨#[]⟩ : ByteArray)))
theorem target_Show.mono : ∀ a b c d e k, LeO (target_Show.f k a b c d e) (target_Show.f (k + 1) a b c d e) := by
 intro a b c d e k
 have g := @target_Check.mono; have i := @target_show.mono; unfold target_Show.f
 exact moE
theorem target_Show.calls (k : Nat) (b c : ByteArray) (d : Int) (g i r : ByteArray) (w : World) (hM_ : Aside0 (LaidW w)) (h : target_Show.f k b c d g i = some r) :
  Calls Tryz.prog 58 #[.agg #[.string b, .string c, .int .i64 d, .string g, .string i]] w fun e w' => e = .returned (.string r) ∧ Below w.heap.size w w' := by
 have O := Tryz.underlying72; have HB := Aside0.mk (Below.refl w.heap.size w); have H := h; clear h; unfold target_Show.f at H; replace H := bd_ H; obtain ⟨t1, Y, H⟩ := H; revert H; refine iteB_ (fun c2 H => ?g1p) (fun c2 H => ?g1n)
 case' g1p =>
  subst c2; replace H := bd_ H; obtain ⟨t2, Z, H⟩ := H; obtain rfl := si_ H
 case' g1n =>
  subst c2; obtain rfl := si_ H
 all_goals
  go_enter Tryz.func58, Tryz.ntmps58; go_wp2_with (first | ((with_reducible refine gate_dst (N := 1) rfl ?_); refine bxE (N := 1) (cs := #[.string b, .string c, .int .i64 d, .string g, .string i]) (t := 72) fun L hg U hbox hb => ?_; obtain ⟨HB', a, j⟩ := bx_ bE hg hbox hb; have M := j; clear HB hb hbox hg; have HB := HB'; clear HB'; obtain ⟨y, z, A, B, D, l, m, n, o, p⟩ := bk5_ a) | ((with_reducible refine gate_callee (f := 117) rfl ?_); refine gL _ Tryz.func117 _ ((target_Check.calls k b c d g i _ _ ?side1 Y.out).mono ?_); (case side1 => exact ⟨lE⟩); rintro e W ⟨rfl, hb⟩; refine ⟨_, rfl, ?_⟩; replace a := kM a hb; replace HB := bS bE hb; (try clear hb); obtain ⟨E, G, I, J, K, q, s, u, v, x⟩ := bk5_ a) | ((with_reducible refine gate_callee (f := 94) rfl ?_); refine gL _ Tryz.func94 _ ((target_show.calls k b c d g i _ _ ?side1 Z.out).mono ?_); (case side1 => exact ⟨lE⟩); rintro e X ⟨rfl, hb⟩; refine ⟨_, rfl, ?_⟩; replace a := kM a hb; replace HB := bS bE hb; (try clear hb))); go_ret; exact ⟨rE, bE⟩
attribute [local go_sem high] eqA70
def header_Norm.l0 : Nat → List (S28) → List (S28) → Int → Int → Option ((List (S28)))
 | 0, _, _, _, _ => none
 | k + 1, e, d, g, a => if a < g then (if 0 ≤ a then (if a < (d.length : Int) then ((octet_Lower.f ((rd_T28 d a).f0)).bind fun b => ((octet_Trim.f k ((rd_T28 d a).f1)).bind fun c => (if e.length < 4398046511104 then (header_Norm.l0 k (e ++ [(⟨b, c⟩ : S28)]) d g (wrap64 (a + 1))) else (none)))) else (none)) else (none)) else (some e)
def header_Norm.f (k : Nat) (l0 : List (S28)) : Option ((List (S28))) := header_Norm.l0 k ([] : List (S28)) l0 (l0.length : Int) 0
theorem header_Norm.mono_l : ∀ k, (∀ a b c d, LeO (header_Norm.l0 k a b c d) (header_Norm.l0 (k + 1) a b c d))
 | 0 => fun _ _ _ _ r h => by simp [header_Norm.l0] at h
 | k + 1 => by
  have ih0 := header_Norm.mono_l k
  ·intros
   have e := @octet_Trim.mono; unfold header_Norm.l0
   exact moE
theorem header_Norm.mono : ∀ a k, LeO (header_Norm.f k a) (header_Norm.f (k + 1) a) := by
 intro a k
 have ih0 := header_Norm.mono_l k
 have b := @octet_Trim.mono; unfold header_Norm.f
 exact moE
def header_Norm.T5 : Bool × List (List Nat × List Nat) := (true, [([], []), ([], []), ([1], [1]), ([2], [2]), ([], []), ([4], [4]), ([5, 3], [5]), ([3, 6], [3, 6]), ([7], [7]), ([0, 8, 6], [0, 8]), ([9, 9, 0, 1, 2, 3, 4, 5, 6, 7, 8, 9], [0, 9])])
def header_Norm.B5 : List Nat := [0, 0, 2, 6, 0, 16, 62, 126, 254, 511, 1023]
theorem header_Norm.tab5 : rtab .any (opsOf Tryz.f60 5) = header_Norm.T5 := by kernel_rfl
theorem header_Norm.bits5 : waitsOk header_Norm.T5.2 header_Norm.B5 = true := by kernel_rfl
theorem header_Norm.calls (k : Nat) (A0 : Option Addr) (c0 : Nat) (l0 : List (S28)) (r : List (S28)) (w : World) (s : Kd.C k28 w A0 l0.length l0) (u : l0.length ≤ c0) (h : header_Norm.f k l0 = some r) :
  Calls Tryz.prog 60 #[.slice A0 l0.length c0] w fun e w' => ∃ x : Value, e = .returned (x) ∧ Kd.R k28 28 w' w.heap.size (fun _ => True) x r ∧ Below w.heap.size w w' := by
 have hu28 := Tryz.underlying28; have X := Aside0.mk s; have HC1 := Aside0.mk u; clear s u; have HB := Aside0.mk (Below.refl w.heap.size w); have H : (header_Norm.l0 k ([] : List (S28)) l0 (l0.length : Int) 0) = some r := h; clear h; have H' := Aside0.mk H; clear H; go_enter Tryz.func60, Tryz.ntmps60; go_wp2
 go_loopg [3, 8] k (fun kq y z w' => ∃ (d : List (S28)) (a : Int), z = .int .i64 a ∧ Aside0 (header_Norm.l0 kq d l0 (l0.length : Int) a = some r) ∧ Aside0 (kq ≤ k) ∧ Aside0 (Kd.R k28 28 w' w.heap.size (fun _ => True) y d) ∧ Aside0 (Below w.heap.size w w'))
 case atStart => exact ⟨(([] : List (S28))), (0), rS, H', ⟨Nat.le_refl _⟩, ⟨by first | exact Kd.R_nil _ _ _ _ _ | exact Kd.N_nil _ _ _ _ _ | exact Kd.V_nil _ _ _ _ _ | exact Kd.Q_nil _ _ _ _ _ | exact Kd.S_nil _ _ _ _ _⟩, ⟨bE⟩⟩
 case round =>
  clear H'; obtain ⟨d, a, rfl, HA, A, HO_3, HB⟩ := hrel
  cases gk with
  | zero => exact absurd HA.out (by simp [header_Norm.l0])
  | succ k1 =>
   have H := HA.out; clear HA
   simp only [header_Norm.l0] at H
   revert H; refine iteDD_ (fun B H => ?g1p) (fun B H => ?g1n)
   case' g1p =>
    revert H; refine iteND_ fun c3b0 => iteND_ fun c4b0 H => ?_; replace H := bd_ H; obtain ⟨D, A5, H⟩ := H; replace H := bd_ H; obtain ⟨E, A6, H⟩ := H; revert H; refine iteNA_ fun G H => ?_
    try replace H := bsm_ H
    generalize I : (d ++ [(⟨D, E⟩ : S28)]) = y8 at H; have Y := Aside0.mk I.symm; clear I; have H' := Aside0.mk H; clear H; have Z : 0 ≤ (a : Int) := of_decide_eq_true mE; have q9 : a < (l0.length : Int) := of_decide_eq_true mE; obtain ⟨ad9, e3, i, j⟩ := at_T28 X.out a Z q9
    cases e3
    replace i := (HB.out.cell (World.block_lt_of_cell? w _ i)).trans i; replace j := (HB.out.cell (World.block_lt_of_cell? w _ j)).trans j; replace Z := eq_true Z; replace q9 := eq_true q9; have J := trivial
   case' g1n =>
    obtain rfl := si_ H; have L := trivial
   all_goals
    try go_wp2_with (first | ((with_reducible refine gate_dst (N := 5) rfl ?_); refine bxE (N := 5) (cs := #[.string ⟨#[]⟩, .string ⟨#[]⟩]) (t := 28) fun b hg l hbox hb => ?_; have n0_ := Aside0.mk (Kd.R_below (Kd.R_elderB (rK HO_3.out) b (Nat.le_of_eq hg.symm)) hb); have n1_ := bS bE hb; have n2_ := Aside0.mk (hbox); have n3_ := sE (w := w) hg; have n4_ := sE (w := w) hg; clear HO_3; clear HB; have HO_3 := n0_; have HB := n1_; have c := n2_; have GW1a1 := n3_; have GE1a1 := n4_; clear n0_ n1_ n2_ n3_ n4_; clear hb hbox hg; obtain ⟨U, W, M, O⟩ := bk2_ c))
    first
    | clear J
      have n0_ : Aside0 (Kd.R k28 28 ((l.setCell ⟨b, 0, none⟩ (.string ((rd_T28 l0 a).f0))).setCell ⟨b, 1, none⟩ (.string ((rd_T28 l0 a).f1))) w.heap.size (fun k_ => k_ ≠ b) u3 d) := ⟨by (with_reducible repeat (first | apply Kd.R_alloc | apply Kd.R_drewN | apply Kd.R_drew)); exact Kd.R_mono (Kd.R_far (p := ⟨b, 1, none⟩) (Kd.R_far (p := ⟨b, 0, none⟩) (Kd.R_mono HO_3.out (fun k_ hk => (⟨hk, hk.2⟩ : _ ∧ k_ ≠ b))) (fun _ hk => hk.2) (.string ((rd_T28 l0 a).f0))) (fun _ hk => hk.2) (.string ((rd_T28 l0 a).f1))) (fun _ hk => hk.1.2)⟩; have n1_ : Aside0 (((l.setCell ⟨b, 0, none⟩ (.string ((rd_T28 l0 a).f0))).setCell ⟨b, 1, none⟩ (.string ((rd_T28 l0 a).f1))).heap[b]? = some (.cells #[.string ((rd_T28 l0 a).f0), .string ((rd_T28 l0 a).f1)] 28 (0, 0))) := ⟨kT⟩; have n2_ : Aside0 (Below w.heap.size w ((l.setCell ⟨b, 0, none⟩ (.string ((rd_T28 l0 a).f0))).setCell ⟨b, 1, none⟩ (.string ((rd_T28 l0 a).f1)))) := ⟨bE⟩; (try clear HO_3); (try clear c); (try clear HB); generalize ((l.setCell ⟨b, 0, none⟩ (.string ((rd_T28 l0 a).f0))).setCell ⟨b, 1, none⟩ (.string ((rd_T28 l0 a).f1))) = q at n0_ n1_ n2_ ⊢; have HO_3 := n0_; have c := n1_; have HB := n2_; clear n0_ n1_ n2_; have n0_ := Aside0.mk (Kd.R_drew HO_3.out); have n1_ := Aside0.mk (blk_drew c.out); have n2_ := Aside0.mk (below_drew1 HB.out); clear HO_3; clear c; clear HB; have HO_3 := n0_; have c := n1_; have HB := n2_; clear n0_ n1_ n2_; refine start_ (n := 11) (S := fun w' => w'.cell? ⟨b, 0, none⟩ = some (.string ((rd_T28 l0 a).f0)) ∧ w'.cell? ⟨b, 1, none⟩ = some (.string ((rd_T28 l0 a).f1))) (ds := []) (bz 11 0) (by kernel_rfl) rfl rfl (bkc2_ c) (fun hHeld => ?_); refine with_tabW header_Norm.tab5 header_Norm.bits5 (fun HT_ HW_ => ?_); generalize q.drew = w29s1 at HO_3 c HB hHeld ⊢; refine qA 0 12 11 1 ?_; refine qA 1 13 11 3 ?_; refine qA 4 16 11 19 ?_; refine tA2 2 14 11 23 ?_; refine tA2 5 17 11 55 ?_; refine oB 3 15 11 63 fun K hK => ?_; refine gS Tryz.func95 #[.string ((rd_T28 l0 a).f0)] ?_
      with_reducible refine (octet_Lower.calls ((rd_T28 l0 a).f0) D _ A5.out).mono ?_
      rintro e w38s1 ⟨rfl, hb⟩; refine ⟨_, rfl, ?_⟩; replace HO_3 := rM HO_3 hb; replace c := kM c hb; replace HB := bS bE hb; (try clear hb); refine hK.out _ _ (bkc2_ c) (fun hHeld => ?_); clear hK K; refine nA 15 ?_; refine oB 6 18 11 127 fun K hK => ?_; refine gS Tryz.func77 #[.string ((rd_T28 l0 a).f1)] ?_
      with_reducible refine (octet_Trim.calls k1 ((rd_T28 l0 a).f1) E _ A6.out).mono ?_
      rintro e w' ⟨rfl, ⟨nd, rfl⟩⟩; refine ⟨_, rfl, ?_⟩; refine hK.out _ _ (bkc2_ c) (fun hHeld => ?_); clear hK K; refine nA 18 ?_; refine qA 7 19 11 255 ?_; refine oB 8 20 11 511 fun K hK => ?_; refine value_ (w1 := ?_) (v := ?_) (by rfl) rfl ?_ ?_
      rotate_left 2
      ·go_simp
       constructor
       ·rfl
       ·rfl
      refine hK.out _ _ ⟨(blk_cell (blk_alloc c.out _) 0).trans rfl, (blk_cell (blk_alloc c.out _) 1).trans rfl⟩ (fun hHeld => ?_); clear hK K; refine nA 20 ?_; refine oB 9 21 11 1023 fun K hK => ?_; refine Kd.R_append_step k28 (w0 := w) w.heap.size (by rfl) (.tmp 12) (.tmp 20) 23 28 (.agg #[(.string ⟨#[]⟩), (.string ⟨#[]⟩)]) 32 rfl Tryz.underlying23 info28 rfl (by decide) (by omega) u3 d (⟨D, E⟩ : S28) [.string D, .string E] (fun k_ => k_ ≠ b) (fun _ => False) rfl rfl ?aP (fun _ hk => hk.elim) ?aF ?aO ?aB ?aS ?aL ?_; (case aP => exact k28_mkM _ _ _ (⟨D, E⟩ : S28)); (case aB => exact bE); (case aF => exact (fun k_ hk => Kd.freshB (g := b) (o := .cells #[.string ((rd_T28 l0 a).f0), .string ((rd_T28 l0 a).f1)] 28 (0, 0)) (kC c) k_ hk)); (case aO => exact (rK HO_3.out)); (case aS => exact (below_size bE)); (case aL => have := G.out; omega); intro v71s1 w71s2 ho hb hg hat
      rw [← Y.out] at ho
      have n0_ := Aside0.mk (blk_grown (g := b) (o := .cells #[.string ((rd_T28 l0 a).f0), .string ((rd_T28 l0 a).f1)] 28 (0, 0)) (kC c) hg (Kd.R_away HO_3.out (fun _ hk => hk))); have n1_ := Aside0.mk (hb); have n2_ := Aside0.mk (ho); clear c; clear HB; clear HO_3; have c := n0_; have HB := n1_; have m := n2_; clear n0_ n1_ n2_; clear ho hb hg hat; refine hK.out _ _ (bkc2_ c) (fun hHeld => ?_); clear hK K; refine nA 21 ?_; refine qA 10 3 11 2047 ?_; refine done_ (done_of HT_.out (by kernel_rfl)) ?_
      try go_wp2
      go_roundg k1
      case measure => have := A.out; omega
      case rel => exact ⟨(y8), (wrap64 (a + 1)), rS, H', ⟨by have := A.out; omega⟩, ⟨by (with_reducible repeat (first | apply Kd.R_alloc | apply Kd.R_drewN | apply Kd.R_drew)); exact Kd.R_mono m.out (fun _ hk => trivial)⟩, ⟨bE⟩⟩
    | clear L
      go_ret; exact ⟨_, rE, by (with_reducible repeat (first | apply Kd.R_alloc | apply Kd.R_drewN | apply Kd.R_drew)); exact HO_3.out, bE⟩
def ask_Norm.f (k : Nat) (b m n : ByteArray) (c : Int) (d : Bool) (e : List (S28)) (g i j l : Int) : Option (ByteArray × ByteArray × ByteArray × Int × Bool × (List (S28)) × Int × Int × Int × Int) := (ask_parts.f k b m n c d e g i j l).bind fun a => (if a.2.2.2.2.2.2.2.2 = true then ((method_Norm.f k b).bind fun o => ((target_Show.f k a.1 a.2.1 a.2.2.1 a.2.2.2.1 a.2.2.2.2.1).bind fun p => ((origin_Show.f k a.2.2.2.2.2.1 a.2.2.2.2.2.2.1 a.2.2.2.2.2.2.2.1).bind fun q => ((header_Norm.f k e).bind fun r => (some (o, p, q, c, d, r, g, i, j, l)))))) else (some ((⟨#[]⟩ : ByteArray), (⟨#[]⟩ : ByteArray), (⟨#[]⟩ : ByteArray), 0, false, ([] : List (S28)), 0, 0, 0, 0)))
theorem ask_Norm.mono : ∀ a b c d e g i j l m k, LeO (ask_Norm.f k a b c d e g i j l m) (ask_Norm.f (k + 1) a b c d e g i j l m) := by
 intro a b c d e g i j l m k
 have n := @ask_parts.mono; have o := @header_Norm.mono; have p := @method_Norm.mono; have q := @origin_Show.mono; have r := @target_Show.mono; unfold ask_Norm.f
 exact moE
def ask_Norm.T4 : Bool × List (List Nat × List Nat) := (true, [([], []), ([0], [0]), ([1], [1]), ([], []), ([3, 2], [3]), ([], []), ([5, 4], [5]), ([], []), ([7], [7]), ([8, 6], [8]), ([0, 1, 2, 7, 8], []), ([10, 2, 9, 0, 1, 2, 7, 8], [2, 10]), ([0, 1, 2, 3, 4, 7, 8, 10, 11], []), ([12, 4, 11, 0, 1, 2, 3, 4, 7, 8, 10, 11], [4, 12]), ([0, 1, 2, 3, 4, 5, 6, 7, 8, 10, 11, 12, 13], []), ([14, 6, 13, 0, 1, 2, 3, 4, 5, 6, 7, 8, 10, 11, 12, 13], [6, 14]), ([0, 1, 2, 3, 4, 5, 6, 7, 8, 9, 10, 11, 12, 13, 14, 15], []), ([16, 9, 15, 0, 1, 2, 3, 4, 5, 6, 7, 8, 9, 10, 11, 12, 13, 14, 15], [9, 16])])
def ask_Norm.B4 : List Nat := [0, 1, 3, 0, 15, 0, 63, 0, 128, 511, 391, 2047, 4095, 8191, 16383, 32767, 65535, 131071]
theorem ask_Norm.tab4 : rtab .any (opsOf Tryz.f20 4) = ask_Norm.T4 := by kernel_rfl
theorem ask_Norm.bits4 : waitsOk ask_Norm.T4.2 ask_Norm.B4 = true := by kernel_rfl
theorem ask_Norm.calls (k : Nat) (y O U : ByteArray) (z : Int) (A : Bool) (W : Option Addr) (X : Nat) (x : List (S28)) (B D E G : Int) (r1 r2 r3 : ByteArray) (r4 : Int) (r5 : Bool) (r6 : List (S28)) (r7 r8 r9 r10 : Int) (w : World) (hr0_5 : Kd.C k28 w W x.length x) (hc0_5 : x.length ≤ X) (hM_ : Aside0 (LaidW w)) (h : ask_Norm.f k y O U z A x B D E G = some (r1, r2, r3, r4, r5, r6, r7, r8, r9, r10)) :
  Calls Tryz.prog 20 #[.agg #[.string y, .string O, .string U, .int .i64 z, .bool A, .slice W x.length X, .int .i64 B, .int .u64 D, .int .i64 E, .int .i64 G]] w fun e w' => ∃ v5_ : Value, e = .returned (.agg #[.string r1, .string r2, .string r3, .int .i64 r4, .bool r5, v5_, .int .i64 r7, .int .u64 r8, .int .i64 r9, .int .i64 r10]) ∧ Kd.R k28 28 w' w.heap.size (fun _ => True) v5_ r6 ∧ Below w.heap.size w w' := by
 have hu26 := Tryz.underlying26; have hu72 := Tryz.underlying72; have hu70 := Tryz.underlying70; have HR1_5 := Aside0.mk hr0_5; have a3 := Aside0.mk hc0_5; clear hr0_5 hc0_5; have HB := Aside0.mk (Below.refl w.heap.size w); have H := h; clear h; unfold ask_Norm.f at H; replace H := bd_ H; obtain ⟨⟨t1, t7, t8, t9, I, J, L, M, t14⟩, A2, H⟩ := H; replace H : (if t14 = true then ((method_Norm.f k y).bind fun t2 => ((target_Show.f k t1 t7 t8 t9 I).bind fun t3 => ((origin_Show.f k J L M).bind fun t4 => ((header_Norm.f k x).bind fun t6 => (some (t2, t3, t4, z, A, t6, B, D, E, G)))))) else (some ((⟨#[]⟩ : ByteArray), (⟨#[]⟩ : ByteArray), (⟨#[]⟩ : ByteArray), 0, false, ([] : List (S28)), 0, 0, 0, 0))) = some (r1, r2, r3, r4, r5, r6, r7, r8, r9, r10) := H; revert H; refine iteB_ (fun c3 H => ?g1p) (fun c3 H => ?g1n)
 case' g1p =>
  subst c3; replace H := bd_ H; obtain ⟨t2, A4, H⟩ := H; replace H := bd_ H; obtain ⟨t3, A6, H⟩ := H; replace H := bd_ H; obtain ⟨t4, A7, H⟩ := H; replace H := bd_ H; obtain ⟨t6, A8, H⟩ := H
  simp only [Option.some.injEq, Prod.mk.injEq] at H
  obtain ⟨rfl, rfl, rfl, rfl, rfl, rfl, rfl, rfl, rfl, rfl⟩ := H; have M2_0 := trivial
 case' g1n =>
  subst c3
  simp only [Option.some.injEq, Prod.mk.injEq] at H
  obtain ⟨rfl, rfl, rfl, rfl, rfl, rfl, rfl, rfl, rfl, rfl⟩ := H; have M2_1 := trivial
 all_goals
  go_enter Tryz.func20, Tryz.ntmps20
  try go_wp2_with (first | ((with_reducible refine gate_dst (N := 1) rfl ?_); refine bxE (N := 1) (cs := #[.string y, .string O, .string U, .int .i64 z, .bool A, .slice W x.length X, .int .i64 B, .int .u64 D, .int .i64 E, .int .i64 G]) (t := 26) fun l hg w1a2 hbox hb => ?_; obtain ⟨HB', a, GW1a1⟩ := bx_ bE hg hbox hb; have GE1a1 := GW1a1; clear HB hb hbox hg; have HB := HB'; clear HB') | ((with_reducible refine gate_dst (N := 2) rfl ?_); refine bxE (N := 2) (cs := #[.string ⟨#[]⟩, .string ⟨#[]⟩, .string ⟨#[]⟩, .int .i64 0, .bool false, .slice none 0 0, .int .i64 0, .int .u64 0, .int .i64 0, .int .i64 0]) (t := 26) fun m hg w2a2 hbox hb => ?_; have c := Aside0.mk (hbox); have GW2a1 := sE (w := w) hg; have GE2a1 := sE (w := w) hg; have o := neL a hg; have q := neG a hg; replace a := kM a hb; replace HB := bS bE hb; clear hb hbox hg; have hnb2a3 := o.out; have hnc2a3 := q.out; obtain ⟨z2a4_0, z2a4_1, z2a4_2, z2a4_3, z2a4_4, z2a4_5, z2a4_6, z2a4_7, z2a4_8, z2a4_9, zf2a4_0, zf2a4_1, zf2a4_2, zf2a4_3, zf2a4_4, zf2a4_5, zf2a4_6, zf2a4_7, zf2a4_8, zf2a4_9⟩ := bk10_ a) | ((with_reducible refine gate_callee (f := 49) rfl ?_); refine gL _ Tryz.func49 _ ((ask_parts.calls k y O U z A _ _ x B D E G t1 t7 t8 t9 I J L M true _ ?side1 ?side2 ?side3 A2.out).mono ?_); (case side1 => exact cE); (case side2 => exact a3.out); (case side3 => exact ⟨lE⟩); rintro e w3a1 ⟨rfl, hb⟩; refine ⟨_, rfl, ?_⟩; replace a := kM a hb; replace c := kM c hb; replace HB := bS bE hb; (try clear hb)) | ((with_reducible refine gate_dst (N := 3) rfl ?_); refine bxE (N := 3) (cs := #[.string ⟨#[]⟩, .string ⟨#[]⟩, .int .i64 0, .string ⟨#[]⟩, .string ⟨#[]⟩]) (t := 72) fun b hg w4a2 hbox hb => ?_; have d := Aside0.mk (hbox); have GW4a1 := sE (w := w) hg; have GE4a1 := sE (w := w) hg; have r := neL a hg; have s := neG a hg; have a4 := neL c hg; have a5 := neG c hg; replace a := kM a hb; replace c := kM c hb; replace HB := bS bE hb; clear hb hbox hg) | ((with_reducible refine gate_dst (N := 4) rfl ?_); refine bxE (N := 4) (cs := #[.string ⟨#[]⟩, .string ⟨#[]⟩, .int .i64 0]) (t := 70) fun g hg a0 hbox hb => ?_; have j := Aside0.mk (hbox); have GW5a1 := sE (w := w) hg; have GE5a1 := sE (w := w) hg; have u := neL a hg; have v := neG a hg; have a6 := neL c hg; have a7 := neG c hg; have a8 := neL d hg; have a9 := neG d hg; replace a := kM a hb; replace c := kM c hb; replace d := kM d hb; replace HB := bS bE hb; clear hb hbox hg; have hnb5a3 := s.out; have hnc5a3 := r.out; have hnb5a4 := a5.out; have hnc5a4 := a4.out; have hnb5a5 := a8.out; have hnc5a5 := a9.out; obtain ⟨z5a6_0, z5a6_1, z5a6_2, z5a6_3, z5a6_4, zf5a6_0, zf5a6_1, zf5a6_2, zf5a6_3, zf5a6_4⟩ := bk5_ d; have hnb5a7 := v.out; have hnc5a7 := u.out; have hnb5a8 := a7.out; have hnc5a8 := a6.out; obtain ⟨z5a9_0, z5a9_1, z5a9_2, zf5a9_0, zf5a9_1, zf5a9_2⟩ := bk3_ j; obtain ⟨z5a10_0, z5a10_1, z5a10_2, z5a10_3, z5a10_4, z5a10_5, z5a10_6, z5a10_7, z5a10_8, z5a10_9, zf5a10_0, zf5a10_1, zf5a10_2, zf5a10_3, zf5a10_4, zf5a10_5, zf5a10_6, zf5a10_7, zf5a10_8, zf5a10_9⟩ := bk10_ c) | ((with_reducible refine gate_callee (f := 49) rfl ?_); refine gL _ Tryz.func49 _ ((ask_parts.calls k y O U z A _ _ x B D E G t1 t7 t8 t9 I J L M false _ ?side1 ?side2 ?side3 A2.out).mono ?_); (case side1 => exact cE); (case side2 => exact a3.out); (case side3 => exact ⟨lE⟩); rintro e w6a1 ⟨rfl, hb⟩; refine ⟨_, rfl, ?_⟩; replace a := kM a hb; replace c := kM c hb; replace HB := bS bE hb; (try clear hb)))
  first
  | clear M2_0
    have n0_ : Aside0 (((((((((a0.setCell ⟨b, 0, none⟩ (.string t1)).setCell ⟨b, 1, none⟩ (.string t7)).setCell ⟨b, 2, none⟩ (.int .i64 t8)).setCell ⟨b, 3, none⟩ (.string t9)).setCell ⟨b, 4, none⟩ (.string I)).setCell ⟨g, 0, none⟩ (.string J)).setCell ⟨g, 1, none⟩ (.string L)).setCell ⟨g, 2, none⟩ (.int .i64 M)).heap[l]? = some (.cells #[.string y, .string O, .string U, .int .i64 z, .bool A, .slice W x.length X, .int .i64 B, .int .u64 D, .int .i64 E, .int .i64 G] 26 (0, 0))) := ⟨kT⟩; have n1_ : Aside0 (((((((((a0.setCell ⟨b, 0, none⟩ (.string t1)).setCell ⟨b, 1, none⟩ (.string t7)).setCell ⟨b, 2, none⟩ (.int .i64 t8)).setCell ⟨b, 3, none⟩ (.string t9)).setCell ⟨b, 4, none⟩ (.string I)).setCell ⟨g, 0, none⟩ (.string J)).setCell ⟨g, 1, none⟩ (.string L)).setCell ⟨g, 2, none⟩ (.int .i64 M)).heap[m]? = some (.cells #[.string ⟨#[]⟩, .string ⟨#[]⟩, .string ⟨#[]⟩, .int .i64 0, .bool false, .slice none 0 0, .int .i64 0, .int .u64 0, .int .i64 0, .int .i64 0] 26 (0, 0))) := ⟨kT⟩; have n2_ : Aside0 (((((((((a0.setCell ⟨b, 0, none⟩ (.string t1)).setCell ⟨b, 1, none⟩ (.string t7)).setCell ⟨b, 2, none⟩ (.int .i64 t8)).setCell ⟨b, 3, none⟩ (.string t9)).setCell ⟨b, 4, none⟩ (.string I)).setCell ⟨g, 0, none⟩ (.string J)).setCell ⟨g, 1, none⟩ (.string L)).setCell ⟨g, 2, none⟩ (.int .i64 M)).heap[b]? = some (.cells #[.string t1, .string t7, .int .i64 t8, .string t9, .string I] 72 (0, 0))) := ⟨kT⟩; have n3_ : Aside0 (((((((((a0.setCell ⟨b, 0, none⟩ (.string t1)).setCell ⟨b, 1, none⟩ (.string t7)).setCell ⟨b, 2, none⟩ (.int .i64 t8)).setCell ⟨b, 3, none⟩ (.string t9)).setCell ⟨b, 4, none⟩ (.string I)).setCell ⟨g, 0, none⟩ (.string J)).setCell ⟨g, 1, none⟩ (.string L)).setCell ⟨g, 2, none⟩ (.int .i64 M)).heap[g]? = some (.cells #[.string J, .string L, .int .i64 M] 70 (0, 0))) := ⟨kT⟩; have n4_ : Aside0 (Below w.heap.size w ((((((((a0.setCell ⟨b, 0, none⟩ (.string t1)).setCell ⟨b, 1, none⟩ (.string t7)).setCell ⟨b, 2, none⟩ (.int .i64 t8)).setCell ⟨b, 3, none⟩ (.string t9)).setCell ⟨b, 4, none⟩ (.string I)).setCell ⟨g, 0, none⟩ (.string J)).setCell ⟨g, 1, none⟩ (.string L)).setCell ⟨g, 2, none⟩ (.int .i64 M))) := ⟨bE⟩; (try clear a); (try clear c); (try clear d); (try clear j); (try clear HB); generalize ((((((((a0.setCell ⟨b, 0, none⟩ (.string t1)).setCell ⟨b, 1, none⟩ (.string t7)).setCell ⟨b, 2, none⟩ (.int .i64 t8)).setCell ⟨b, 3, none⟩ (.string t9)).setCell ⟨b, 4, none⟩ (.string I)).setCell ⟨g, 0, none⟩ (.string J)).setCell ⟨g, 1, none⟩ (.string L)).setCell ⟨g, 2, none⟩ (.int .i64 M)) = w13s1 at n0_ n1_ n2_ n3_ n4_ ⊢; have a := n0_; have c := n1_; have d := n2_; have j := n3_; have HB := n4_; clear n0_ n1_ n2_ n3_ n4_; have n0_ := Aside0.mk (blk_drew a.out); have n1_ := Aside0.mk (blk_drew c.out); have n2_ := Aside0.mk (blk_drew d.out); have n3_ := Aside0.mk (blk_drew j.out); have n4_ := Aside0.mk (below_drew1 HB.out); clear a; clear c; clear d; clear j; clear HB; have a := n0_; have c := n1_; have d := n2_; have j := n3_; have HB := n4_; clear n0_ n1_ n2_ n3_ n4_; refine start_ (n := 18) (S := fun w' => w'.cell? ⟨l, 0, none⟩ = some (.string y) ∧ w'.cell? ⟨l, 1, none⟩ = some (.string O) ∧ w'.cell? ⟨l, 2, none⟩ = some (.string U) ∧ w'.cell? ⟨l, 3, none⟩ = some (.int .i64 z) ∧ w'.cell? ⟨l, 4, none⟩ = some (.bool A) ∧ w'.cell? ⟨l, 5, none⟩ = some (.slice W x.length X) ∧ w'.cell? ⟨l, 6, none⟩ = some (.int .i64 B) ∧ w'.cell? ⟨l, 7, none⟩ = some (.int .u64 D) ∧ w'.cell? ⟨l, 8, none⟩ = some (.int .i64 E) ∧ w'.cell? ⟨l, 9, none⟩ = some (.int .i64 G) ∧ w'.cell? ⟨b, 0, none⟩ = some (.string t1) ∧ w'.cell? ⟨b, 1, none⟩ = some (.string t7) ∧ w'.cell? ⟨b, 2, none⟩ = some (.int .i64 t8) ∧ w'.cell? ⟨b, 3, none⟩ = some (.string t9) ∧ w'.cell? ⟨b, 4, none⟩ = some (.string I) ∧ w'.cell? ⟨g, 0, none⟩ = some (.string J) ∧ w'.cell? ⟨g, 1, none⟩ = some (.string L) ∧ w'.cell? ⟨g, 2, none⟩ = some (.int .i64 M)) (ds := [11, 13, 15, 17]) (bz 18 0) (by kernel_rfl) rfl rfl (bkd10_ a (bkd5_ d (bkc3_ j))) (fun hHeld => ?_); refine with_tabW ask_Norm.tab4 ask_Norm.bits4 (fun HT_ HW_ => ?_); generalize w13s1.drew = w37s1 at a c d j HB hHeld ⊢; refine qA 0 15 18 1 ?_; refine qA 7 22 18 129 ?_; refine tA18 1 16 18 131 ?_; refine tA18 3 18 18 139 ?_; refine tA18 5 20 18 171 ?_; refine tA18 8 23 18 427 ?_; refine oB 2 17 18 431 fun K hK => ?_; refine gS Tryz.func57 #[.string y] ?_
    with_reducible refine (method_Norm.calls k y t2 _ A4.out).mono ?_
    rintro e w47s1 ⟨rfl, hb⟩; refine ⟨_, rfl, ?_⟩; replace a := kM a hb; replace c := kM c hb; replace d := kM d hb; replace j := kM j hb; replace HB := bS bE hb; (try clear hb); refine hK.out _ _ (bkd10_ a (bkd5_ d (bkc3_ j))) (fun hHeld => ?_); clear hK K; refine nA 17 ?_; refine qA 10 25 18 1455 ?_; refine oB 4 19 18 1471 fun K hK => ?_; refine gS Tryz.func58 #[.agg #[.string t1, .string t7, .int .i64 t8, .string t9, .string I]] ?_
    with_reducible refine (target_Show.calls k t1 t7 t8 t9 I t3 _ ?side1 A6.out).mono ?_
    (case side1 => exact ⟨lE⟩); rintro e w58s1 ⟨rfl, hb⟩; refine ⟨_, rfl, ?_⟩; replace a := kM a hb; replace c := kM c hb; replace d := kM d hb; replace j := kM j hb; replace HB := bS bE hb; (try clear hb); refine hK.out _ _ (bkd10_ a (bkd5_ d (bkc3_ j))) (fun hHeld => ?_); clear hK K; refine nA 19 ?_; refine oB 6 21 18 1535 fun K hK => ?_; refine gS Tryz.func59 #[.agg #[.string J, .string L, .int .i64 M]] ?_
    with_reducible refine (origin_Show.calls k J L M t4 _ ?side1 A7.out).mono ?_
    (case side1 => exact ⟨lE⟩); rintro e w68s1 ⟨rfl, hb⟩; refine ⟨_, rfl, ?_⟩; replace a := kM a hb; replace c := kM c hb; replace d := kM d hb; replace j := kM j hb; replace HB := bS bE hb; (try clear hb); refine hK.out _ _ (bkd10_ a (bkd5_ d (bkc3_ j))) (fun hHeld => ?_); clear hK K; refine nA 21 ?_; refine oB 9 24 18 2047 fun K hK => ?_; refine gS Tryz.func60 #[.slice W x.length X] ?_
    with_reducible refine (header_Norm.calls k _ _ x t6 _ ?side1 ?side2 A8.out).mono ?_
    (case side1 => exact cE); (case side2 => exact a3.out); rintro e a1 ⟨v79s2, rfl, aa, hb⟩; refine ⟨_, rfl, ?_⟩; have n0_ := Aside0.mk (Kd.R_lower aa (below_size bE)); have n1_ := kM a hb; have n2_ := kM c hb; have n3_ := kM d hb; have n4_ := kM j hb; have n5_ := bS bE hb; clear a; clear c; clear d; clear j; clear HB; have ab := n0_; have a := n1_; have c := n2_; have d := n3_; have j := n4_; have HB := n5_; clear n0_ n1_ n2_ n3_ n4_ n5_; (try clear hb); (try clear hb2); (try clear hk); (try clear hi); (try clear aa); obtain ⟨Y, Z, a2⟩ := Kd.R_slice ab.out; (first | subst a2 | (injection a2 with f1_ f2_ f3_; have f4_ := f1_.symm; have f5_ := f3_.symm; clear f1_ f2_ f3_; subst f4_; subst f5_)); refine hK.out _ _ (bkd10_ a (bkd5_ d (bkc3_ j))) (fun hHeld => ?_); clear hK K; refine nA 24 ?_; refine last_ (i := 11) (N := none) (bz 18 4095) rfl rfl (one_of HT_.out (by kernel_rfl)) (by decide) (fun K hK => ?_); have hs110s1 : a1.cell? ⟨l, 0, none⟩ = some (.string y) := (blk_cell a.out 0).trans rfl; have hfs110s1 := blk_frozen a.out 0; have hns110s1_1 := q.out; have hns110s1_2 := s.out; have hns110s1_3 := v.out; have hms110s1_1 := o.out; have hms110s1_2 := r.out; have hms110s1_3 := u.out; refine skip_ (w1 := ?_) (by rfl) rfl ?_ ?_
    rotate_left
    ·go_simp
     rfl
    refine hK.out _ _ ?_; clear hK K; refine qA 12 26 18 8191 ?_; refine last_ (i := 13) (N := none) (bz 18 16383) rfl rfl (one_of HT_.out (by kernel_rfl)) (by decide) (fun K hK => ?_); have hs126s1 : a1.cell? ⟨l, 1, none⟩ = some (.string O) := (blk_cell a.out 1).trans rfl; have hfs126s1 := blk_frozen a.out 1; have hns126s1_1 := q.out; have hns126s1_2 := s.out; have hns126s1_3 := v.out; have hms126s1_1 := o.out; have hms126s1_2 := r.out; have hms126s1_3 := u.out; refine skip_ (w1 := ?_) (by rfl) rfl ?_ ?_
    rotate_left
    ·go_simp
     rfl
    refine hK.out _ _ ?_; clear hK K; refine qA 14 27 18 32767 ?_; refine last_ (i := 15) (N := none) (bz 18 65535) rfl rfl (one_of HT_.out (by kernel_rfl)) (by decide) (fun K hK => ?_); have hs142s1 : a1.cell? ⟨l, 2, none⟩ = some (.string U) := (blk_cell a.out 2).trans rfl; have hfs142s1 := blk_frozen a.out 2; have hns142s1_1 := q.out; have hns142s1_2 := s.out; have hns142s1_3 := v.out; have hms142s1_1 := o.out; have hms142s1_2 := r.out; have hms142s1_3 := u.out; refine skip_ (w1 := ?_) (by rfl) rfl ?_ ?_
    rotate_left
    ·go_simp
     rfl
    refine hK.out _ _ ?_; clear hK K; refine qA 16 28 18 131071 ?_; refine last_ (i := 17) (N := none) (bz 18 262143) rfl rfl (one_of HT_.out (by kernel_rfl)) (by decide) (fun K hK => ?_); have hs158s1 : a1.cell? ⟨l, 5, none⟩ = some (.slice W x.length X) := (blk_cell a.out 5).trans rfl; have hfs158s1 := blk_frozen a.out 5; have hns158s1_1 := q.out; have hns158s1_2 := s.out; have hns158s1_3 := v.out; have hms158s1_1 := o.out; have hms158s1_2 := r.out; have hms158s1_3 := u.out; refine skip_ (w1 := ?_) (by rfl) rfl ?_ ?_
    rotate_left
    ·go_simp
     rfl
    refine hK.out _ _ ?_; clear hK K; refine done_ (done_of HT_.out (by kernel_rfl)) ?_; obtain ⟨z173s1_0, z173s1_1, z173s1_2, z173s1_3, z173s1_4, z173s1_5, z173s1_6, z173s1_7, z173s1_8, z173s1_9, zf173s1_0, zf173s1_1, zf173s1_2, zf173s1_3, zf173s1_4, zf173s1_5, zf173s1_6, zf173s1_7, zf173s1_8, zf173s1_9⟩ := bk10_ a; obtain ⟨z174s1_0, z174s1_1, z174s1_2, z174s1_3, z174s1_4, z174s1_5, z174s1_6, z174s1_7, z174s1_8, z174s1_9, zf174s1_0, zf174s1_1, zf174s1_2, zf174s1_3, zf174s1_4, zf174s1_5, zf174s1_6, zf174s1_7, zf174s1_8, zf174s1_9⟩ := bk10_ c
    try go_wp2
    refine bodyPost_ret (results_cell_row rfl _ _ m 26 #[.string t2, .string t3, .string t4, .int .i64 z, .bool A, .slice Y t6.length Z, .int .i64 B, .int .u64 D, .int .i64 E, .int .i64 G] (0, 0) _ rfl (kT) Tryz.underlying26 rfl (by kernel_rfl)) rfl ?_; exact ⟨_, rE, by (with_reducible repeat (first | apply Kd.R_alloc | apply Kd.R_drewN | apply Kd.R_drew)); exact Kd.R_mono (Kd.R_far (p := ⟨m, 9, none⟩) (Kd.R_far (p := ⟨m, 8, none⟩) (Kd.R_far (p := ⟨m, 7, none⟩) (Kd.R_far (p := ⟨m, 6, none⟩) (Kd.R_far (p := ⟨m, 5, none⟩) (Kd.R_far (p := ⟨m, 4, none⟩) (Kd.R_far (p := ⟨m, 3, none⟩) (Kd.R_far (p := ⟨m, 2, none⟩) (Kd.R_far (p := ⟨m, 1, none⟩) (Kd.R_far (p := ⟨m, 0, none⟩) (Kd.R_far (p := ⟨l, 5, none⟩) (Kd.R_far (p := ⟨l, 2, none⟩) (Kd.R_far (p := ⟨l, 1, none⟩) (Kd.R_far (p := ⟨l, 0, none⟩) (Kd.R_types (Kd.R_types ab.out a.out (by decide)) c.out (by decide)) (fun _ hk => hk.1.2) (.string t2)) (fun _ hk => hk.1.2) (.string t3)) (fun _ hk => hk.1.2) (.string t4)) (fun _ hk => hk.1.2) (.slice Y t6.length Z)) (fun _ hk => hk.2) (.string t2)) (fun _ hk => hk.2) (.string t3)) (fun _ hk => hk.2) (.string t4)) (fun _ hk => hk.2) (.int .i64 z)) (fun _ hk => hk.2) (.bool A)) (fun _ hk => hk.2) (.slice Y t6.length Z)) (fun _ hk => hk.2) (.int .i64 B)) (fun _ hk => hk.2) (.int .u64 D)) (fun _ hk => hk.2) (.int .i64 E)) (fun _ hk => hk.2) (.int .i64 G)) (fun _ hk => trivial), bE⟩
  | clear M2_1
    refine bodyPost_ret (results_cell_row rfl _ _ m 26 #[.string ⟨#[]⟩, .string ⟨#[]⟩, .string ⟨#[]⟩, .int .i64 0, .bool false, .slice none 0 0, .int .i64 0, .int .u64 0, .int .i64 0, .int .i64 0] (0, 0) _ rfl (kT) Tryz.underlying26 rfl (by kernel_rfl)) rfl ?_; exact ⟨_, rE, by first | exact Kd.R_nil _ _ _ _ _ | exact Kd.N_nil _ _ _ _ _ | exact Kd.V_nil _ _ _ _ _ | exact Kd.Q_nil _ _ _ _ _ | exact Kd.S_nil _ _ _ _ _, bE⟩
def ask_Names.f (k : Nat) (b c d : ByteArray) (e : Int) (g : Bool) (a : List (S28)) (i j l m : Int) : Option (List ByteArray) := (ask_Check.f k b c d e g a i j l m).bind fun n => (if n = 0 then ((safe_Names.f k a).bind fun o => (some o)) else (some ([] : List ByteArray)))
theorem ask_Names.mono : ∀ a b c d e g i j l m k, LeO (ask_Names.f k a b c d e g i j l m) (ask_Names.f (k + 1) a b c d e g i j l m) := by
 intro a b c d e g i j l m k
 have n := @ask_Check.mono; have o := @safe_Names.mono; unfold ask_Names.f
 exact moE
theorem ask_Names.calls (k : Nat) (c d g : ByteArray) (i : Int) (j : Bool) (p : Option Addr) (q : Nat) (b : List (S28)) (l m n o : Int) (r : List ByteArray) (w : World) (s : Kd.C k28 w p b.length b) (u : b.length ≤ q) (hM_ : Aside0 (LaidW w)) (h : ask_Names.f k c d g i j b l m n o = some r) :
  Calls Tryz.prog 24 #[.agg #[.string c, .string d, .string g, .int .i64 i, .bool j, .slice p b.length q, .int .i64 l, .int .u64 m, .int .i64 n, .int .i64 o]] w fun e w' => ∃ A : Value, e = .returned (A) ∧ Kd.R Kd.string 9 w' w.heap.size (fun _ => True) A r ∧ Below w.heap.size w w' := by
 have ay := Tryz.underlying26; have av := Aside0.mk s; have v := Aside0.mk u; clear s u; have HB := Aside0.mk (Below.refl w.heap.size w); have H := h; clear h; unfold ask_Names.f at H; replace H := bd_ H; obtain ⟨t1, A2, H⟩ := H; revert H; refine iteEF_ (fun B D H => ?g1p) (fun c3 B D H => ?g1n)
 case' g1p =>
  replace H := bd_ H; obtain ⟨t2, A4, H⟩ := H; obtain rfl := si_ H; have E := trivial
 case' g1n =>
  obtain rfl := si_ H; have G := trivial
 all_goals
  go_enter Tryz.func24, Tryz.ntmps24; go_wp2_with (first | ((with_reducible refine gate_dst (N := 1) rfl ?_); refine bxE (N := 1) (cs := #[.string c, .string d, .string g, .int .i64 i, .bool j, .slice p b.length q, .int .i64 l, .int .u64 m, .int .i64 n, .int .i64 o]) (t := 26) fun aw hg az hbox hb => ?_; obtain ⟨HB', a, y⟩ := bx_ bE hg hbox hb; have ax := y; clear HB hb hbox hg; have HB := HB'; clear HB'; obtain ⟨a9, aa, ab, ac, ad, ae, af, ag, ah, ai, I, J, K, L, M, O, U, W, X, Y⟩ := bk10_ a) | ((with_reducible refine gate_callee (f := 13) rfl ?_); refine gL _ Tryz.func13 _ ((ask_Check.calls k c d g i j _ _ b l m n o t1 _ ?side1 ?side2 ?side3 A2.out).mono ?_); (case side1 => exact cE); (case side2 => exact v.out); (case side3 => exact ⟨lE⟩); rintro e aA ⟨rfl, hb⟩; refine ⟨_, rfl, ?_⟩; replace a := kM a hb; replace HB := bS bE hb; (try clear hb); obtain ⟨aj, ak, al, am, an, ao, ap, aq, ar, au, Z, a0, a1, a2, a3, a4, a5, a6, a7, a8⟩ := bk10_ a) | ((with_reducible refine gate_callee (f := 65) rfl ?_); refine gL _ Tryz.func65 _ ((safe_Names.calls k _ _ b t2 _ ?side1 ?side2 ?side3 A4.out).mono ?_); (case side1 => exact cE); (case side2 => exact v.out); (case side3 => exact ⟨lE⟩); rintro e aB ⟨aC, rfl, x, hb⟩; refine ⟨_, rfl, ?_⟩; have n0_ := Aside0.mk (Kd.R_lower x (below_size bE)); have n1_ := kM a hb; have n2_ := bS bE hb; clear a; clear HB; have z := n0_; have a := n1_; have HB := n2_; clear n0_ n1_ n2_; (try clear hb); (try clear hb2); (try clear hk); (try clear hi); (try clear x))); go_ret
  first
  | clear E
    exact ⟨_, rE, by (with_reducible repeat (first | apply Kd.R_alloc | apply Kd.R_drewN | apply Kd.R_drew)); exact z.out, bE⟩
  | clear G
    exact ⟨_, rE, by first | exact Kd.R_nil _ _ _ _ _ | exact Kd.N_nil _ _ _ _ _ | exact Kd.V_nil _ _ _ _ _ | exact Kd.Q_nil _ _ _ _ _ | exact Kd.S_nil _ _ _ _ _, bE⟩
def ask_Cell.f (k : Nat) (b c d : ByteArray) (e : Int) (g : Bool) (i : List (S28)) (j l m n : Int) : Option (ByteArray × ByteArray × Bool) := (ask_Norm.f k b c d e g i j l m n).bind fun a => (some (a.2.2.1, a.2.1, a.2.2.2.2.1))
theorem ask_Cell.mono : ∀ a b c d e g i j l m k, LeO (ask_Cell.f k a b c d e g i j l m) (ask_Cell.f (k + 1) a b c d e g i j l m) := by
 intro a b c d e g i j l m k
 have n := @ask_Norm.mono; unfold ask_Cell.f
 exact moE
theorem ask_Cell.calls (k : Nat) (o p q : ByteArray) (r : Int) (s : Bool) (z : Option Addr) (A : Nat) (c : List (S28)) (u v x y : Int) (r1 r2 : ByteArray) (r3 : Bool) (w : World) (B : Kd.C k28 w z c.length c) (D : c.length ≤ A) (hM_ : Aside0 (LaidW w)) (h : ask_Cell.f k o p q r s c u v x y = some (r1, r2, r3)) :
  Calls Tryz.prog 29 #[.agg #[.string o, .string p, .string q, .int .i64 r, .bool s, .slice z c.length A, .int .i64 u, .int .u64 v, .int .i64 x, .int .i64 y]] w fun e w' => e = .returned (.agg #[.string r1, .string r2, .bool r3]) ∧ Below w.heap.size w w' := by
 have hu26 := Tryz.underlying26; have hu43 := Tryz.underlying43; have HR1_5 := Aside0.mk B; have G := Aside0.mk D; clear B D; have HB := Aside0.mk (Below.refl w.heap.size w); have H := h; clear h; unfold ask_Cell.f at H; replace H := bd_ H; obtain ⟨⟨t1, t2, t3, t4, t5, t6, t7, t8, t9, t10⟩, A2, H⟩ := H; replace H : (some (t3, t2, t5)) = some (r1, r2, r3) := H
 simp only [Option.some.injEq, Prod.mk.injEq] at H
 obtain ⟨rfl, rfl, rfl⟩ := H; go_enter Tryz.func29, Tryz.ntmps29; go_wp2_with (first | ((with_reducible refine gate_dst (N := 1) rfl ?_); refine bxE (N := 1) (cs := #[.string o, .string p, .string q, .int .i64 r, .bool s, .slice z c.length A, .int .i64 u, .int .u64 v, .int .i64 x, .int .i64 y]) (t := 26) fun gb1a1 hg w1a2 hbox hb => ?_; obtain ⟨HB', a, I⟩ := bx_ bE hg hbox hb; have GE1a1 := I; clear HB hb hbox hg; have HB := HB'; clear HB') | ((with_reducible refine gate_dst (N := 2) rfl ?_); refine bxE (N := 2) (cs := #[.string ⟨#[]⟩, .string ⟨#[]⟩, .bool false]) (t := 43) fun J hg w2a2 hbox hb => ?_; have b := Aside0.mk (hbox); have GW2a1 := sE (w := w) hg; have GE2a1 := sE (w := w) hg; have d := neL a hg; have g := neG a hg; replace a := kM a hb; replace HB := bS bE hb; clear hb hbox hg; have ag := d.out; have ah := g.out; obtain ⟨ai, aj, ak, al, am, an, ao, ap, aq, ar, M, O, U, W, X, Y, Z, a0, a1, a2⟩ := bk10_ a) | ((with_reducible refine gate_callee (f := 20) rfl ?_); refine gL _ Tryz.func20 _ ((ask_Norm.calls k o p q r s _ _ c u v x y t1 t2 t3 t4 t5 t6 t7 t8 t9 t10 _ ?side1 ?side2 ?side3 A2.out).mono ?_); (case side1 => exact cE); (case side2 => exact G.out); (case side3 => exact ⟨lE⟩); rintro e w3a1 ⟨v3a2, rfl, E, hb⟩; refine ⟨_, rfl, ?_⟩; have n0_ := Aside0.mk (Kd.R_lower E (below_size bE)); have n1_ := kM a hb; have n2_ := kM b hb; have n3_ := bS bE hb; clear a; clear b; clear HB; have i := n0_; have a := n1_; have b := n2_; have HB := n3_; clear n0_ n1_ n2_ n3_; (try clear hb); (try clear hb2); (try clear hk); (try clear hi); (try clear E)) | ((with_reducible refine gate_dst (N := 3) rfl ?_); refine bxE (N := 3) (cs := #[.string ⟨#[]⟩, .string ⟨#[]⟩, .string ⟨#[]⟩, .int .i64 0, .bool false, .slice none 0 0, .int .i64 0, .int .u64 0, .int .i64 0, .int .i64 0]) (t := 26) fun gb4a1 hg w4a2 hbox hb => ?_; have K := Aside0.mk (hbox); have GW4a1 := sE (w := w) hg; have GE4a1 := sE (w := w) hg; have j := neL a hg; have l := neG a hg; have m := neL b hg; have n := neG b hg; replace i := rM i hb; replace a := kM a hb; replace b := kM b hb; replace HB := bS bE hb; clear hb hbox hg; have au := l.out; have av := j.out; have aw := n.out; have ax := m.out; obtain ⟨ay, az, aA, aB, aC, aD, aE, aF, aG, aH, a3, a4, a5, a6, a7, a8, a9, aa, ab, ac⟩ := bk10_ K; obtain ⟨Ao4a6, co4a6, L⟩ := Kd.R_slice i.out; subst L; obtain ⟨aI, aJ, aK, ad, ae, af⟩ := bk3_ b)); refine bodyPost_ret (results_cell_row rfl _ _ J 43 #[.string t3, .string t2, .bool t5] (0, 0) _ rfl (kT) Tryz.underlying43 rfl (by kernel_rfl)) rfl ?_; exact ⟨rE, bE⟩
def ask_Cross.f (k : Nat) (b c d : ByteArray) (e : Int) (g : Bool) (i : List (S28)) (j l m n : Int) : Option (Bool) := (ask_parts.f k b c d e g i j l m n).bind fun a => (if a.2.2.2.2.2.2.2.2 = true then (some (!(a.1.toList == a.2.2.2.2.2.1.toList) || (!(a.2.1.toList == a.2.2.2.2.2.2.1.toList) || (!(a.2.2.1 == a.2.2.2.2.2.2.2.1))))) else (some false))
theorem ask_Cross.mono : ∀ a b c d e g i j l m k, LeO (ask_Cross.f k a b c d e g i j l m) (ask_Cross.f (k + 1) a b c d e g i j l m) := by
 intro a b c d e g i j l m k
 have n := @ask_parts.mono; unfold ask_Cross.f
 exact moE
theorem ask_Cross.calls (k : Nat) (d g i : ByteArray) (j : Int) (l : Bool) (z : Option Addr) (A : Nat) (b : List (S28)) (m n o p : Int) (r : Bool) (w : World) (B : Kd.C k28 w z b.length b) (D : b.length ≤ A) (hM_ : Aside0 (LaidW w)) (h : ask_Cross.f k d g i j l b m n o p = some r) :
  Calls Tryz.prog 16 #[.agg #[.string d, .string g, .string i, .int .i64 j, .bool l, .slice z b.length A, .int .i64 m, .int .u64 n, .int .i64 o, .int .i64 p]] w fun e w' => e = .returned (.bool r) ∧ Below w.heap.size w w' := by
 have hu26 := Tryz.underlying26; have hu72 := Tryz.underlying72; have hu70 := Tryz.underlying70; have ay := Aside0.mk B; have E := Aside0.mk D; clear B D; have HB := Aside0.mk (Below.refl w.heap.size w); have H := h; clear h; unfold ask_Cross.f at H; replace H := bd_ H; obtain ⟨⟨t1, t2, t3, t4, t5, t6, t7, t8, t9⟩, A2, H⟩ := H; replace H : (if t9 = true then (some (!(t1.toList == t6.toList) || (!(t2.toList == t7.toList) || (!(t3 == t8))))) else (some false)) = some r := H; revert H; refine iteB_ (fun c3 H => ?g1p) (fun c3 H => ?g1n)
 case' g1p =>
  subst c3; obtain rfl := si_ H
 case' g1n =>
  subst c3; obtain rfl := si_ H
 all_goals
  go_enter Tryz.func16, Tryz.ntmps16; go_wp2_with (first | ((with_reducible refine gate_dst (N := 1) rfl ?_); refine bxE (N := 1) (cs := #[.string d, .string g, .string i, .int .i64 j, .bool l, .slice z b.length A, .int .i64 m, .int .u64 n, .int .i64 o, .int .i64 p]) (t := 26) fun gb1a1 hg w1a2 hbox hb => ?_; obtain ⟨HB', a, G⟩ := bx_ bE hg hbox hb; have GE1a1 := G; clear HB hb hbox hg; have HB := HB'; clear HB'; obtain ⟨a8, a9, aa, ab, ac, ad, ae, af, ag, ah, J, K, L, M, O, U, W, X, Y, Z⟩ := bk10_ a) | ((with_reducible refine gate_callee (f := 49) rfl ?_); refine gL _ Tryz.func49 _ ((ask_parts.calls k d g i j l _ _ b m n o p t1 t2 t3 t4 t5 t6 t7 t8 true _ ?side1 ?side2 ?side3 A2.out).mono ?_); (case side1 => exact cE); (case side2 => exact E.out); (case side3 => exact ⟨lE⟩); rintro e w2a1 ⟨rfl, hb⟩; refine ⟨_, rfl, ?_⟩; replace a := kM a hb; replace HB := bS bE hb; (try clear hb)) | ((with_reducible refine gate_dst (N := 3) rfl ?_); refine bxE (N := 3) (cs := #[.string ⟨#[]⟩, .string ⟨#[]⟩, .int .i64 0, .string ⟨#[]⟩, .string ⟨#[]⟩]) (t := 72) fun gb3a1 hg w3a2 hbox hb => ?_; have c := Aside0.mk (hbox); have GW3a1 := sE (w := w) hg; have GE3a1 := sE (w := w) hg; have q := neL a hg; have s := neG a hg; replace a := kM a hb; replace HB := bS bE hb; clear hb hbox hg) | ((with_reducible refine gate_dst (N := 4) rfl ?_); refine bxE (N := 4) (cs := #[.string ⟨#[]⟩, .string ⟨#[]⟩, .int .i64 0]) (t := 70) fun gb4a1 hg w4a2 hbox hb => ?_; have I := Aside0.mk (hbox); have GW4a1 := sE (w := w) hg; have GE4a1 := sE (w := w) hg; have u := neL a hg; have v := neG a hg; have x := neL c hg; have y := neG c hg; replace a := kM a hb; replace c := kM c hb; replace HB := bS bE hb; clear hb hbox hg; have ai := s.out; have aj := q.out; have ak := x.out; have al := y.out; obtain ⟨am, an, ao, ap, aq, a0, a1, a2, a3, a4⟩ := bk5_ c; have ar := v.out; have au := u.out; obtain ⟨av, aw, ax, a5, a6, a7⟩ := bk3_ I) | ((with_reducible refine gate_callee (f := 49) rfl ?_); refine gL _ Tryz.func49 _ ((ask_parts.calls k d g i j l _ _ b m n o p t1 t2 t3 t4 t5 t6 t7 t8 false _ ?side1 ?side2 ?side3 A2.out).mono ?_); (case side1 => exact cE); (case side2 => exact E.out); (case side3 => exact ⟨lE⟩); rintro e w5a1 ⟨rfl, hb⟩; refine ⟨_, rfl, ?_⟩; replace a := kM a hb; replace HB := bS bE hb; (try clear hb))); go_ret; exact ⟨rE, bE⟩
end Go.Proofs.YtfmajangcbgooaaGreatDoor.Pr

