import Derived.Test.YtfmajangcbgooaaGreatDoorPr0
import Derived.Test.YtfmajangcbgooaaGreatDoorK0
import Derived.Test.YtfmajangcbgooaaGreatDoorPr4
import Derived.Test.YtfmajangcbgooaaGreatDoorPr5
import Derived.Test.YtfmajangcbgooaaGreatDoorPr1
import Derived.Test.YtfmajangcbgooaaGreatDoorPr12
import Derived.Test.YtfmajangcbgooaaGreatDoorG5
namespace Go.Proofs.YtfmajangcbgooaaGreatDoor.Pr
open Go.RowKit Go.Proofs.YtfmajangcbgooaaGreatDoorW.PrintWords Go.Proofs.YtfmajangcbgooaaGreatDoorW.PrintLast Go.Proofs.YtfmajangcbgooaaGreatDoorW.PrintMore
attribute [local go_sem] max2_int min2_int max_two min_two max_three min_three max_four min_four
set_option linter.unusedVariables false
set_option maxHeartbeats 64000000
set_option maxRecDepth 100000
set_option linter.unusedSimpArgs false
def target_Check.j0 : Nat → Bool → ByteArray → ByteArray → Int → ByteArray → ByteArray → Option (Bool)
 | 0, _, _, _, _, _, _ => none
 | k + 1, p, a, b, c, e, d => if d.toList = ([] : List UInt8) then ((origin_Check.f k a b c).bind fun g => (if g = true then (if p = true then ((target_show.f k a b c e d).bind fun i => (some (decide ((i.size : Int) ≤ 512)))) else (some false)) else (some false))) else ((strings_HasPrefix.f d (⟨#[63]⟩ : ByteArray)).bind fun j => (if j = true then ((target_all.f k d (⟨#[34, 35, 60, 62]⟩ : ByteArray)).bind fun l => ((origin_Check.f k a b c).bind fun m => (if m = true then (if p = true then (if l = true then ((target_show.f k a b c e d).bind fun n => (some (decide ((n.size : Int) ≤ 512)))) else (some false)) else (some false)) else (some false)))) else ((origin_Check.f k a b c).bind fun o => (if o = true then (if p = true then (some false) else (some false)) else (some false)))))
def target_Check.f (k : Nat) (b c : ByteArray) (d : Int) (a e : ByteArray) : Option (Bool) := (strings_HasPrefix.f a (⟨#[47]⟩ : ByteArray)).bind fun g => (if g = true then ((target_all.f k a (⟨#[34, 35, 60, 62, 63, 92, 94, 123, 124, 125, 96]⟩ : ByteArray)).bind fun i => (if i = true then ((target_Clean.f k a).bind fun j => (target_Check.j0 k (j.toList == a.toList) b c d a e)) else (target_Check.j0 k false b c d a e))) else (target_Check.j0 k false b c d a e))
theorem target_Check.mono_l : ∀ k, (∀ a b c d e g, LeO (target_Check.j0 k a b c d e g) (target_Check.j0 (k + 1) a b c d e g))
 | 0 => fun _ _ _ _ _ _ r h => by simp [target_Check.j0] at h
 | k + 1 => by
  have ih0 := target_Check.mono_l k
  ·intros
   have i := @origin_Check.mono; have j := @target_Clean.mono; have l := @target_all.mono; have m := @target_show.mono; unfold target_Check.j0
   exact moE
theorem target_Check.mono : ∀ a b c d e k, LeO (target_Check.f k a b c d e) (target_Check.f (k + 1) a b c d e) := by
 intro a b c d e k
 have ih0 := target_Check.mono_l k
 have g := @origin_Check.mono; have i := @target_Clean.mono; have j := @target_all.mono; have l := @target_show.mono; unfold target_Check.f
 exact moE
def target_Check.T1 : Bool × List (List Nat × List Nat) := (true, [([], []), ([0], [0]), ([1], [1]), ([2, 2], [2]), ([3], [3]), ([4, 3], [3, 4]), ([5, 3, 3], [3, 5]), ([3, 6], [3, 6]), ([7, 6], [7]), ([8], [8]), ([9, 8], [8, 9]), ([10, 8, 8], [8, 10]), ([8], [8]), ([12, 8], [8, 12]), ([11, 13, 8], [8, 11, 13]), ([8, 14], [8, 14]), ([15, 11, 0, 1, 2, 3, 4, 5, 6, 7, 8, 9, 10, 11, 12, 13, 14, 15], [15])])
def target_Check.B1 : List Nat := [0, 1, 3, 7, 15, 31, 63, 127, 255, 511, 1023, 2047, 511, 4607, 16383, 32767, 65535]
theorem target_Check.tab1 : rtab .any (opsOf Tryz.f117 1) = target_Check.T1 := by kernel_rfl
theorem target_Check.bits1 : waitsOk target_Check.T1.2 target_Check.B1 = true := by kernel_rfl
theorem target_Check.calls (k : Nat) (c d : ByteArray) (g : Int) (b i : ByteArray) (r : Bool) (w : World) (hM_ : Aside0 (LaidW w)) (h : target_Check.f k c d g b i = some r) :
  Calls Tryz.prog 117 #[.agg #[.string c, .string d, .int .i64 g, .string b, .string i]] w fun e w' => e = .returned (.bool r) ∧ Below w.heap.size w w' := by
 have hu72 := Tryz.underlying72; have hu70 := Tryz.underlying70; have HB := Aside0.mk (Below.refl w.heap.size w); have H := h; clear h; unfold target_Check.f at H; have M := Aside0.mk H; clear H; go_enter Tryz.func117, Tryz.ntmps117
 go_upto_region 1 with (first | ((with_reducible refine gate_dst (N := 1) rfl ?_); (try (refine gate_guard (by rfl) ?_; dsimp only)); refine bxE (N := 1) (cs := #[.string c, .string d, .int .i64 g, .string b, .string i]) (t := 72) fun j hg a7 hbox hb => ?_; obtain ⟨HB', a, O⟩ := bx_ bE hg hbox hb; have GE1a1 := O; clear HB hb hbox hg; have HB := HB'; clear HB'))
 (try simp only [Act.put, List.setIfInBounds_toArray, List.set_cons_zero, List.set_cons_succ])
 go_cut [3] (fun a8 wc => ∃ (kq : Nat) (v : Bool), a8 = .bool v ∧ Aside0 (target_Check.j0 kq v c d g b i = some r) ∧ Aside0 (kq ≤ k) ∧ Aside0 (wc.heap[j]? = some (.cells #[.string c, .string d, .int .i64 g, .string b, .string i] 72 (0, 0))) ∧ Aside0 (Below w.heap.size w wc))
 case first =>
  have H := M.out; clear M; replace H := bd_ H; obtain ⟨t1, A2, H⟩ := H; revert H; refine iteB_ (fun c3 H => ?g1p) (fun c3 H => ?g1n)
  case' g1p =>
   subst c3; replace H := bd_ H; obtain ⟨t2, A4, H⟩ := H; revert H; refine iteB_ (fun c5 H => ?g2p) (fun c5 H => ?g2n)
   case' g2p =>
    subst c5; replace H := bd_ H; obtain ⟨t3, A6, H⟩ := H; have H' := Aside0.mk H; clear H; have L := trivial; have a9 := trivial
   case' g2n =>
    subst c5; have H' := Aside0.mk H; clear H; have L := trivial; have aa := trivial
  case' g1n =>
   subst c3; have H' := Aside0.mk H; clear H; have ab := trivial
  all_goals
   try go_wp2
   have n0_ := Aside0.mk (blk_drew a.out); have n1_ := Aside0.mk (below_drew1 HB.out); clear a; clear HB; have a := n0_; have HB := n1_; clear n0_ n1_; refine start_ (n := 17) (S := fun w' => w'.cell? ⟨j, 0, none⟩ = some (.string c) ∧ w'.cell? ⟨j, 1, none⟩ = some (.string d) ∧ w'.cell? ⟨j, 2, none⟩ = some (.int .i64 g) ∧ w'.cell? ⟨j, 3, none⟩ = some (.string b) ∧ w'.cell? ⟨j, 4, none⟩ = some (.string i)) (ds := []) (bz 17 0) (by kernel_rfl) rfl rfl (bkc5_ a) (fun hHeld => ?_); refine with_tabW target_Check.tab1 target_Check.bits1 (fun HT_ HW_ => ?_); generalize a7.drew = w15s1 at a HB hHeld ⊢; refine qA 0 5 17 1 ?_; refine tA5 1 6 17 3 ?_; refine oB 2 7 17 7 fun K hK => ?_; refine gS Tryz.func157 #[.string b, .string ⟨#[47]⟩] ?_
   first
   | clear L
     with_reducible refine (strings_HasPrefix.calls b (⟨#[47]⟩ : ByteArray) true _ A2.out).mono ?_
     rintro e w' ⟨rfl, ⟨nd, rfl⟩⟩; refine ⟨_, rfl, ?_⟩; refine hK.out _ _ (bkc5_ a) (fun hHeld => ?_); clear hK K; refine nA 7 ?_; refine qA 3 8 17 15 ?_; refine qA 4 9 17 31 ?_; refine tA5 5 10 17 63 ?_; refine oB 6 11 17 127 fun K hK => ?_; refine gS Tryz.func92 #[.string b, .string ⟨#[34, 35, 60, 62, 63, 92, 94, 123, 124, 125, 96]⟩] ?_
     first
     | clear a9
       with_reducible refine (target_all.calls k b (⟨#[34, 35, 60, 62, 63, 92, 94, 123, 124, 125, 96]⟩ : ByteArray) true _ A4.out).mono ?_
       rintro e w' ⟨rfl, ⟨nd, rfl⟩⟩; refine ⟨_, rfl, ?_⟩; refine hK.out _ _ (bkc5_ a) (fun hHeld => ?_); clear hK K; refine nA 11 ?_; refine qA 7 12 17 255 ?_; refine qA 8 13 17 511 ?_; refine qA 9 14 17 1023 ?_; refine qA 12 17 17 5119 ?_; refine tA5 10 15 17 6143 ?_; refine tA5 13 18 17 14335 ?_; refine oB 11 16 17 16383 fun K hK => ?_; refine gS Tryz.func93 #[.string b] ?_
       with_reducible refine (target_Clean.calls k b t3 _ A6.out).mono ?_
       rintro e w46s1 ⟨rfl, hb⟩; refine ⟨_, rfl, ?_⟩; replace a := kM a hb; replace HB := bS bE hb; (try clear hb); refine hK.out _ _ (bkc5_ a) (fun hHeld => ?_); clear hK K; refine nA 16 ?_; refine qA 14 19 17 32767 ?_; refine qA 15 20 17 65535 ?_; refine qA 16 3 17 131071 ?_; refine done_ (done_of HT_.out (by kernel_rfl)) ?_
       try go_wp2
       go_meet
       case rel => exact ⟨_, ((t3.toList == b.toList)), rS, H', ⟨oE⟩, ⟨kC a⟩, ⟨bE⟩⟩
     | clear aa
       with_reducible refine (target_all.calls k b (⟨#[34, 35, 60, 62, 63, 92, 94, 123, 124, 125, 96]⟩ : ByteArray) false _ A4.out).mono ?_
       rintro e w' ⟨rfl, ⟨nd, rfl⟩⟩; refine ⟨_, rfl, ?_⟩; refine hK.out _ _ (bkc5_ a) (fun hHeld => ?_); clear hK K; refine nA 11 ?_; refine qA 7 12 17 255 ?_; refine qA 8 13 17 511 ?_; refine qU 9 14 17 1023 ?_; refine qU 10 15 17 2047 ?_; refine qU 11 16 17 4095 ?_; refine qU 12 17 17 8191 ?_; refine qU 13 18 17 16383 ?_; refine qU 14 19 17 32767 ?_; refine qA 15 20 17 65535 ?_; refine qA 16 3 17 131071 ?_; refine done_ (done_of HT_.out (by kernel_rfl)) ?_
       try go_wp2
       go_meet
       case rel => exact ⟨_, (false), rS, H', ⟨oE⟩, ⟨kC a⟩, ⟨bE⟩⟩
   | clear ab
     with_reducible refine (strings_HasPrefix.calls b (⟨#[47]⟩ : ByteArray) false _ A2.out).mono ?_
     rintro e w' ⟨rfl, ⟨nd, rfl⟩⟩; refine ⟨_, rfl, ?_⟩; refine hK.out _ _ (bkc5_ a) (fun hHeld => ?_); clear hK K; refine nA 7 ?_; refine qA 3 8 17 15 ?_; refine qU 4 9 17 31 ?_; refine qU 5 10 17 63 ?_; refine qU 6 11 17 127 ?_; refine qA 7 12 17 255 ?_; refine qA 8 13 17 511 ?_; refine qU 9 14 17 1023 ?_; refine qU 10 15 17 2047 ?_; refine qU 11 16 17 4095 ?_; refine qU 12 17 17 8191 ?_; refine qU 13 18 17 16383 ?_; refine qU 14 19 17 32767 ?_; refine qA 15 20 17 65535 ?_; refine qA 16 3 17 131071 ?_; refine done_ (done_of HT_.out (by kernel_rfl)) ?_
     try go_wp2
     go_meet
     case rel => exact ⟨_, (false), rS, H', ⟨oE⟩, ⟨kC a⟩, ⟨bE⟩⟩
 case rest =>
  clear M; (try clear c3); (try clear c5); obtain ⟨kq, v, rfl, HA, HJ1, a, HB⟩ := hcut
  cases kq with
  | zero => exact absurd HA.out (by simp [target_Check.j0])
  | succ u =>
   have H := HA.out; clear HA
   simp only [target_Check.j0] at H
   revert H; refine iteEF_ (fun ac ad H => ?g5p) (fun c7 ac ad H => ?g5n)
   case' g5p =>
    replace H := bd_ H; obtain ⟨t4, A8, H⟩ := H; revert H; refine iteB_ (fun U H => ?g6p) (fun U H => ?g6n)
    case' g6p =>
     subst U; revert H; refine iteB_ (fun W H => ?g7p) (fun W H => ?g7n)
     case' g7p =>
      subst W; replace H := bd_ H; obtain ⟨t5, X, H⟩ := H; obtain rfl := si_ H; obtain ⟨Y, Z, a0, a1, a2, D, E, G, I, J⟩ := bk5_ a
     case' g7n =>
      subst W; obtain rfl := si_ H; obtain ⟨z11_0, z11_1, z11_2, z11_3, z11_4, zf11_0, zf11_1, zf11_2, zf11_3, zf11_4⟩ := bk5_ a
    case' g6n =>
     subst U; obtain rfl := si_ H; obtain ⟨z10_0, z10_1, z10_2, z10_3, z10_4, zf10_0, zf10_1, zf10_2, zf10_3, zf10_4⟩ := bk5_ a
   case' g5n =>
    replace H := bd_ H; obtain ⟨t4, A8, H⟩ := H; revert H; refine iteB_ (fun U H => ?g8p) (fun U H => ?g8n)
    case' g8p =>
     subst U; replace H := bd_ H; obtain ⟨t5, a3, H⟩ := H; replace H := bd_ H; obtain ⟨t6, X, H⟩ := H; revert H; refine iteB_ (fun l H => ?g9p) (fun l H => ?g9n)
     case' g9p =>
      subst l; revert H; refine iteB_ (fun a4 H => ?g10p) (fun a4 H => ?g10n)
      case' g10p =>
       subst a4; revert H; refine iteB_ (fun a5 H => ?g11p) (fun a5 H => ?g11n)
       case' g11p =>
        subst a5; replace H := bd_ H; obtain ⟨t7, A15, H⟩ := H; obtain rfl := si_ H; obtain ⟨z16_0, z16_1, z16_2, z16_3, z16_4, zf16_0, zf16_1, zf16_2, zf16_3, zf16_4⟩ := bk5_ a
       case' g11n =>
        subst a5; obtain rfl := si_ H; obtain ⟨z15_0, z15_1, z15_2, z15_3, z15_4, zf15_0, zf15_1, zf15_2, zf15_3, zf15_4⟩ := bk5_ a
      case' g10n =>
       subst a4; obtain rfl := si_ H; obtain ⟨z14_0, z14_1, z14_2, z14_3, z14_4, zf14_0, zf14_1, zf14_2, zf14_3, zf14_4⟩ := bk5_ a
     case' g9n =>
      subst l; obtain rfl := si_ H; obtain ⟨x, y, z, A, B, m, o, p, q, s⟩ := bk5_ a
    case' g8n =>
     subst U; replace H := bd_ H; obtain ⟨t5, a3, H⟩ := H; revert H; refine iteB_ (fun a6 H => ?g12p) (fun a6 H => ?g12n)
     case' g12p =>
      subst a6; revert H; refine iteB_ (fun l H => ?g13p) (fun l H => ?g13n)
      case' g13p =>
       subst l; obtain rfl := si_ H; obtain ⟨x, y, z, A, B, m, o, p, q, s⟩ := bk5_ a
      case' g13n =>
       subst l; obtain rfl := si_ H; obtain ⟨x, y, z, A, B, m, o, p, q, s⟩ := bk5_ a
     case' g12n =>
      subst a6; obtain rfl := si_ H; obtain ⟨Y, Z, a0, a1, a2, D, E, G, I, J⟩ := bk5_ a
   all_goals
    go_wp2_with (first | ((with_reducible refine gate_callee (f := 98) rfl ?_); refine gL _ Tryz.func98 _ ((origin_Check.calls u c d g _ _ A8.out).mono ?_); rintro e w2a1 ⟨rfl, hb⟩; refine ⟨_, rfl, ?_⟩; replace a := kM a hb; replace HB := bS bE hb; (try clear hb); obtain ⟨z2a2_0, z2a2_1, z2a2_2, z2a2_3, z2a2_4, ae, af, ag, ah, ai⟩ := bk5_ a) | (go_at_call 94; (with_reducible refine (target_show.calls u c d g b i _ _ ?side1 X.out).mono ?_); (case side1 => exact ⟨lE⟩); rintro e w3a1 ⟨rfl, hb⟩; replace a := kM a hb; replace HB := bS bE hb; (try clear hb)) | (go_at_call 157; (with_reducible refine (strings_HasPrefix.calls i (⟨#[63]⟩ : ByteArray) _ _ A8.out).mono ?_); rintro e w' ⟨rfl, ⟨nd, rfl⟩⟩) | (go_at_call 92; (with_reducible refine (target_all.calls u i (⟨#[34, 35, 60, 62]⟩ : ByteArray) _ _ a3.out).mono ?_); rintro e w' ⟨rfl, ⟨nd, rfl⟩⟩) | ((with_reducible refine gate_callee (f := 98) rfl ?_); refine gL _ Tryz.func98 _ ((origin_Check.calls u c d g _ _ X.out).mono ?_); rintro e w6a1 ⟨rfl, hb⟩; refine ⟨_, rfl, ?_⟩; replace a := kM a hb; replace HB := bS bE hb; (try clear hb); obtain ⟨z6a2_0, z6a2_1, z6a2_2, z6a2_3, z6a2_4, aj, ak, al, am, an⟩ := bk5_ a) | (go_at_call 94; (with_reducible refine (target_show.calls u c d g b i _ _ ?side1 A15.out).mono ?_); (case side1 => exact ⟨lE⟩); rintro e w7a1 ⟨rfl, hb⟩; replace a := kM a hb; replace HB := bS bE hb; (try clear hb)) | ((with_reducible refine gate_callee (f := 98) rfl ?_); refine gL _ Tryz.func98 _ ((origin_Check.calls u c d g _ _ a3.out).mono ?_); rintro e w8a1 ⟨rfl, hb⟩; refine ⟨_, rfl, ?_⟩; replace a := kM a hb; replace HB := bS bE hb; (try clear hb))); go_ret; exact ⟨rE, bE⟩
def target_Show.f (k : Nat) (a b : ByteArray) (c : Int) (d e : ByteArray) : Option (ByteArray) := (target_Check.f k a b c d e).bind fun g => (if g = true then ((target_show.f k a b c d e).bind fun i => (some i)) else (some (⟨#[]⟩ : ByteArray)))
theorem target_Show.mono : ∀ a b c d e k, LeO (target_Show.f k a b c d e) (target_Show.f (k + 1) a b c d e) := by
 intro a b c d e k
 have g := @target_Check.mono; have i := @target_show.mono; unfold target_Show.f
 exact moE
theorem target_Show.calls (k : Nat) (b c : ByteArray) (d : Int) (g i r : ByteArray) (w : World) (hM_ : Aside0 (LaidW w)) (h : target_Show.f k b c d g i = some r) :
  Calls Tryz.prog 58 #[.agg #[.string b, .string c, .int .i64 d, .string g, .string i]] w fun e w' => e = .returned (.string r) ∧ Below w.heap.size w w' := by
 have U := Tryz.underlying72; have HB := Aside0.mk (Below.refl w.heap.size w); have H := h; clear h; unfold target_Show.f at H; replace H := bd_ H; obtain ⟨t1, Z, H⟩ := H; revert H; refine iteB_ (fun L H => ?g1p) (fun L H => ?g1n)
 case' g1p =>
  subst L; replace H := bd_ H; obtain ⟨t2, A3, H⟩ := H; obtain rfl := si_ H
 case' g1n =>
  subst L; obtain rfl := si_ H
 all_goals
  go_enter Tryz.func58, Tryz.ntmps58; go_wp2_with (first | ((with_reducible refine gate_dst (N := 1) rfl ?_); refine bxE (N := 1) (cs := #[.string b, .string c, .int .i64 d, .string g, .string i]) (t := 72) fun M hg W hbox hb => ?_; obtain ⟨HB', a, j⟩ := bx_ bE hg hbox hb; have O := j; clear HB hb hbox hg; have HB := HB'; clear HB'; obtain ⟨y, z, A, B, D, l, m, n, o, p⟩ := bk5_ a) | ((with_reducible refine gate_callee (f := 117) rfl ?_); refine gL _ Tryz.func117 _ ((target_Check.calls k b c d g i _ _ ?side1 Z.out).mono ?_); (case side1 => exact ⟨lE⟩); rintro e X ⟨rfl, hb⟩; refine ⟨_, rfl, ?_⟩; replace a := kM a hb; replace HB := bS bE hb; (try clear hb); obtain ⟨E, G, I, J, K, q, s, u, v, x⟩ := bk5_ a) | ((with_reducible refine gate_callee (f := 94) rfl ?_); refine gL _ Tryz.func94 _ ((target_show.calls k b c d g i _ _ ?side1 A3.out).mono ?_); (case side1 => exact ⟨lE⟩); rintro e Y ⟨rfl, hb⟩; refine ⟨_, rfl, ?_⟩; replace a := kM a hb; replace HB := bS bE hb; (try clear hb))); go_ret; exact ⟨rE, bE⟩
end Go.Proofs.YtfmajangcbgooaaGreatDoor.Pr
