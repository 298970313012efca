-- Made by a program of this session (wip/xp/xp.py), over the print's words.
import Derived.Test.YtfmajangcbgooaaGreatDoorPr0
import Derived.Test.YtfmajangcbgooaaGreatDoorK0
import Derived.Test.YtfmajangcbgooaaGreatDoorPr6
import Derived.Test.YtfmajangcbgooaaGreatDoorPr7
import Derived.Test.YtfmajangcbgooaaGreatDoorPr8
import Derived.Test.YtfmajangcbgooaaGreatDoorPr14
import Derived.Test.YtfmajangcbgooaaGreatDoorG5
namespace Go.Proofs.YtfmajangcbgooaaGreatDoor.Pr
open Go.RowKit Go.Proofs.YtfmajangcbgooaaGreatDoorW.PrintWords Go.Proofs.YtfmajangcbgooaaGreatDoorW.PrintLast Go.Proofs.YtfmajangcbgooaaGreatDoorW.PrintMore
attribute [local go_sem] max2_int min2_int max_two min_two max_three min_three max_four min_four   -- for this text's walks alone
set_option linter.unusedVariables false
set_option linter.unusedSimpArgs false

/-! ### target_Check: function 117 -/
def target_Check.j0 : Nat → Bool → ByteArray → ByteArray → Int → ByteArray → ByteArray → Option (Bool)
 | 0, _, _, _, _, _, _ => none
 | k + 1, x3, x351000, x351001, x351002, x351003, x351004 => if x351004.toList = ([] : List UInt8) then ((origin_Check.f k x351000 x351001 x351002).bind fun t354 => (if t354 = true then (if x3 = true then ((target_show.f k x351000 x351001 x351002 x351003 x351004).bind fun t355 => (some (decide ((t355.size : Int) ≤ 512)))) else (some false)) else (some false))) else ((strings_HasPrefix.f x351004 (⟨#[63]⟩ : ByteArray)).bind fun t356 => (if t356 = true then ((target_all.f k x351004 (⟨#[34, 35, 60, 62]⟩ : ByteArray)).bind fun t357 => ((origin_Check.f k x351000 x351001 x351002).bind fun t358 => (if t358 = true then (if x3 = true then (if t357 = true then ((target_show.f k x351000 x351001 x351002 x351003 x351004).bind fun t359 => (some (decide ((t359.size : Int) ≤ 512)))) else (some false)) else (some false)) else (some false)))) else ((origin_Check.f k x351000 x351001 x351002).bind fun t360 => (if t360 = true then (if x3 = true then (some false) else (some false)) else (some false)))))
def target_Check.f (k : Nat) (a0_0 : ByteArray) (a0_1 : ByteArray) (a0_2 : Int) (a0_3 : ByteArray) (a0_4 : ByteArray) : Option (Bool) := (strings_HasPrefix.f a0_3 (⟨#[47]⟩ : ByteArray)).bind fun t351 => (if t351 = true then ((target_all.f k a0_3 (⟨#[34, 35, 60, 62, 63, 92, 94, 123, 124, 125, 96]⟩ : ByteArray)).bind fun t352 => (if t352 = true then ((target_Clean.f k a0_3).bind fun t353 => (target_Check.j0 k (t353.toList == a0_3.toList) a0_0 a0_1 a0_2 a0_3 a0_4)) else (target_Check.j0 k false a0_0 a0_1 a0_2 a0_3 a0_4))) else (target_Check.j0 k false a0_0 a0_1 a0_2 a0_3 a0_4))
theorem target_Check.mono_l : ∀ k, (∀ y0 y1 y2 y3 y4 y5, LeO (target_Check.j0 k y0 y1 y2 y3 y4 y5) (target_Check.j0 (k + 1) y0 y1 y2 y3 y4 y5))
 | 0 => fun _ _ _ _ _ _ r h => by simp [target_Check.j0] at h
 | k + 1 => by
  have ih0 := target_Check.mono_l k
  ·intros
   have hm0 := @origin_Check.mono; have hm1 := @target_Clean.mono; have hm2 := @target_all.mono; have hm3 := @target_show.mono; unfold target_Check.j0
   exact moE

theorem target_Check.mono : ∀ a0 a1 a2 a3 a4 k, LeO (target_Check.f k a0 a1 a2 a3 a4) (target_Check.f (k + 1) a0 a1 a2 a3 a4) := by
 intro a0 a1 a2 a3 a4 k
 have ih0 := target_Check.mono_l k
 have hm0 := @origin_Check.mono; have hm1 := @target_Clean.mono; have hm2 := @target_all.mono; have hm3 := @target_show.mono; unfold target_Check.f
 exact moE

def target_Check.T1 : Bool × List (List Nat × List Nat) := (true, [([], []), ([0], [0]), ([1], [1]), ([2, 2], [2]), ([3], [3]), ([4, 3], [3, 4]), ([5, 3, 3], [3, 5]), ([3, 6], [3, 6]), ([7, 6], [7]), ([8], [8]), ([9, 8], [8, 9]), ([10, 8, 8], [8, 10]), ([8], [8]), ([12, 8], [8, 12]), ([11, 13, 8], [8, 11, 13]), ([8, 14], [8, 14]), ([15, 11, 0, 1, 2, 3, 4, 5, 6, 7, 8, 9, 10, 11, 12, 13, 14, 15], [15])])
def target_Check.B1 : List Nat := [0, 1, 3, 7, 15, 31, 63, 127, 255, 511, 1023, 2047, 511, 4607, 16383, 32767, 65535]
theorem target_Check.tab1 : rtab .any (opsOf Tryz.f117 1) = target_Check.T1 := by kernel_rfl
theorem target_Check.bits1 : waitsOk target_Check.T1.2 target_Check.B1 = true := by kernel_rfl
set_option maxHeartbeats 8000000 in
set_option maxRecDepth 100000 in
theorem target_Check.calls (k : Nat) (a0_0 : ByteArray) (a0_1 : ByteArray) (a0_2 : Int) (a0_3 : ByteArray) (a0_4 : ByteArray) (r : Bool) (w : World) (hM_ : Aside0 (LaidW w)) (h : target_Check.f k a0_0 a0_1 a0_2 a0_3 a0_4 = some r) :
  Calls Tryz.prog 117 #[.agg #[.string a0_0, .string a0_1, .int .i64 a0_2, .string a0_3, .string a0_4]] w fun e w' => e = .returned (.bool r) ∧ Below w.heap.size w w' := by
 have hu72 := Tryz.underlying72
 have hu70 := Tryz.underlying70
 have HB := Aside0.mk (Below.refl w.heap.size w)
 have H : ((strings_HasPrefix.f a0_3 (⟨#[47]⟩ : ByteArray)).bind fun t1 => (if t1 = true then ((target_all.f k a0_3 (⟨#[34, 35, 60, 62, 63, 92, 94, 123, 124, 125, 96]⟩ : ByteArray)).bind fun t2 => (if t2 = true then ((target_Clean.f k a0_3).bind fun t3 => (target_Check.j0 k (t3.toList == a0_3.toList) a0_0 a0_1 a0_2 a0_3 a0_4)) else (target_Check.j0 k false a0_0 a0_1 a0_2 a0_3 a0_4))) else (target_Check.j0 k false a0_0 a0_1 a0_2 a0_3 a0_4))) = some r := h
 clear h
 have HC1 := Aside0.mk H
 clear H
 go_enter Tryz.func117, Tryz.ntmps117
 go_upto_region 1 with (first | ((with_reducible refine gate_dst (N := 1) rfl ?_); (try (refine gate_guard (by rfl) ?_; dsimp only)); refine bxE (N := 1) (cs := #[.string a0_0, .string a0_1, .int .i64 a0_2, .string a0_3, .string a0_4]) (t := 72) fun gb1a1 hg w1a2 hbox hb => ?_; obtain ⟨HB', BK1a1, GW1a1⟩ := bx_ bE hg hbox hb; have GE1a1 := GW1a1; clear HB hb hbox hg; have HB := HB'; clear HB'))
 (try simp only [Act.put, List.setIfInBounds_toArray, List.set_cons_zero, List.set_cons_succ])
 go_cut [3] (fun v4s1 wc => ∃ (kq : Nat) (x3_1 : Bool), v4s1 = .bool x3_1 ∧ Aside0 (target_Check.j0 kq x3_1 a0_0 a0_1 a0_2 a0_3 a0_4 = some r) ∧ Aside0 (kq ≤ k) ∧ Aside0 (wc.heap[gb1a1]? = some (.cells #[.string a0_0, .string a0_1, .int .i64 a0_2, .string a0_3, .string a0_4] 72 (0, 0))) ∧ Aside0 (Below w.heap.size w wc))
 case first =>
  have H := HC1.out
  clear HC1
  replace H := bd_ H; obtain ⟨t1, A2, H⟩ := H
  refine em_ (t1 = true) (fun c3 => ?g1p) (fun c3 => ?g1n)
  case' g1p =>
   subst c3
   replace H := ifT_ H
   replace H := bd_ H; obtain ⟨t2, A4, H⟩ := H
   refine em_ (t2 = true) (fun c5 => ?g2p) (fun c5 => ?g2n)
   case' g2p =>
    subst c5
    replace H := ifT_ H
    replace H := bd_ H; obtain ⟨t3, A6, H⟩ := H
    have H' := Aside0.mk H
    clear H
    have M3_0 := trivial; have M4_0 := trivial
   case' g2n =>
    replace c5 := Bool.eq_false_iff.mpr c5
    subst c5
    replace H := ifF_ H
    have H' := Aside0.mk H
    clear H
    have M3_0 := trivial; have M4_1 := trivial
  case' g1n =>
   replace c3 := Bool.eq_false_iff.mpr c3
   subst c3
   replace H := ifF_ H
   have H' := Aside0.mk H
   clear H
   have M3_1 := trivial
  all_goals
   try go_wp2
   have n0_ := Aside0.mk (blk_drew BK1a1.out)
   have n1_ := Aside0.mk (below_drew1 HB.out)
   clear BK1a1
   clear HB
   have BK1a1 := n0_
   have HB := n1_
   clear n0_ n1_
   refine start_ (n := 17) (S := fun w' => w'.cell? ⟨gb1a1, 0, none⟩ = some (.string a0_0) ∧ w'.cell? ⟨gb1a1, 1, none⟩ = some (.string a0_1) ∧ w'.cell? ⟨gb1a1, 2, none⟩ = some (.int .i64 a0_2) ∧ w'.cell? ⟨gb1a1, 3, none⟩ = some (.string a0_3) ∧ w'.cell? ⟨gb1a1, 4, none⟩ = some (.string a0_4)) (ds := []) (bz 17 0) (by kernel_rfl) rfl rfl (bkc5_ BK1a1) (fun hHeld => ?_); refine with_tabW target_Check.tab1 target_Check.bits1 (fun HT_ HW_ => ?_)
   generalize w1a2.drew = w15s1 at BK1a1 HB hHeld ⊢
   refine pA (i := 0) (N := some 5) (bz 17 1) (any_of HT_.out (by kernel_rfl)) ?_
   refine tA5 (i := 1) (N := some 6) (bz 17 3) (take_ofW HT_.out HW_.out (by kernel_rfl)) hHeld ?_
   refine one_ (i := 2) (N := some 7) (bz 17 7) rfl rfl (one_of HT_.out (by kernel_rfl)) (by decide) (fun K hK => ?_)
   refine gS Tryz.func157 #[.string a0_3, .string (⟨#[47]⟩ : ByteArray)] ?_
   first
   | clear M3_0
     with_reducible refine (strings_HasPrefix.calls a0_3 (⟨#[47]⟩ : ByteArray) true _ A2.out).mono ?_
     rintro e w' ⟨rfl, ⟨nd, rfl⟩⟩
     refine ⟨_, rfl, ?_⟩
     refine hK.out _ _ (bkc5_ BK1a1) (fun hHeld => ?_)
     clear hK K
     refine nA 7 ?_
     refine pA (i := 3) (N := some 8) (bz 17 15) (any_of HT_.out (by kernel_rfl)) ?_
     refine pA (i := 4) (N := some 9) (bz 17 31) (any_of HT_.out (by kernel_rfl)) ?_
     refine tA5 (i := 5) (N := some 10) (bz 17 63) (take_ofW HT_.out HW_.out (by kernel_rfl)) hHeld ?_
     refine one_ (i := 6) (N := some 11) (bz 17 127) rfl rfl (one_of HT_.out (by kernel_rfl)) (by decide) (fun K hK => ?_)
     refine gS Tryz.func92 #[.string a0_3, .string (⟨#[34, 35, 60, 62, 63, 92, 94, 123, 124, 125, 96]⟩ : ByteArray)] ?_
     first
     | clear M4_0
       with_reducible refine (target_all.calls k a0_3 (⟨#[34, 35, 60, 62, 63, 92, 94, 123, 124, 125, 96]⟩ : ByteArray) true _ A4.out).mono ?_
       rintro e w' ⟨rfl, ⟨nd, rfl⟩⟩
       refine ⟨_, rfl, ?_⟩
       refine hK.out _ _ (bkc5_ BK1a1) (fun hHeld => ?_)
       clear hK K
       refine nA 11 ?_
       refine pA (i := 7) (N := some 12) (bz 17 255) (any_of HT_.out (by kernel_rfl)) ?_
       refine pA (i := 8) (N := some 13) (bz 17 511) (any_of HT_.out (by kernel_rfl)) ?_
       refine pA (i := 9) (N := some 14) (bz 17 1023) (any_of HT_.out (by kernel_rfl)) ?_
       refine pA (i := 12) (N := some 17) (bz 17 5119) (any_of HT_.out (by kernel_rfl)) ?_
       refine tA5 (i := 10) (N := some 15) (bz 17 6143) (take_ofW HT_.out HW_.out (by kernel_rfl)) hHeld ?_
       refine tA5 (i := 13) (N := some 18) (bz 17 14335) (take_ofW HT_.out HW_.out (by kernel_rfl)) hHeld ?_
       refine one_ (i := 11) (N := some 16) (bz 17 16383) rfl rfl (one_of HT_.out (by kernel_rfl)) (by decide) (fun K hK => ?_)
       refine gS Tryz.func93 #[.string a0_3] ?_
       with_reducible refine (target_Clean.calls k a0_3 t3 _ A6.out).mono ?_
       rintro e w46s1 ⟨rfl, hb⟩
       refine ⟨_, rfl, ?_⟩
       replace BK1a1 := kM BK1a1 hb; replace HB := bS bE hb; (try clear hb)
       refine hK.out _ _ (bkc5_ BK1a1) (fun hHeld => ?_)
       clear hK K
       refine nA 16 ?_
       refine pA (i := 14) (N := some 19) (bz 17 32767) (any_of HT_.out (by kernel_rfl)) ?_
       refine pA (i := 15) (N := some 20) (bz 17 65535) (any_of HT_.out (by kernel_rfl)) ?_
       refine pA (i := 16) (N := some 3) (bz 17 131071) (any_of HT_.out (by kernel_rfl)) ?_
       refine done_ (done_of HT_.out (by kernel_rfl)) ?_
       try go_wp2
       go_meet
       case rel => exact ⟨_, ((t3.toList == a0_3.toList)), rS, H', ⟨oE⟩, ⟨kC BK1a1⟩, ⟨bE⟩⟩
     | clear M4_1
       with_reducible refine (target_all.calls k a0_3 (⟨#[34, 35, 60, 62, 63, 92, 94, 123, 124, 125, 96]⟩ : ByteArray) false _ A4.out).mono ?_
       rintro e w' ⟨rfl, ⟨nd, rfl⟩⟩
       refine ⟨_, rfl, ?_⟩
       refine hK.out _ _ (bkc5_ BK1a1) (fun hHeld => ?_)
       clear hK K
       refine nA 11 ?_
       refine pA (i := 7) (N := some 12) (bz 17 255) (any_of HT_.out (by kernel_rfl)) ?_
       refine pA (i := 8) (N := some 13) (bz 17 511) (any_of HT_.out (by kernel_rfl)) ?_
       refine pU (i := 9) (N := some 14) (bz 17 1023) (any_of HT_.out (by kernel_rfl)) ?_
       refine pU (i := 10) (N := some 15) (bz 17 2047) (any_of HT_.out (by kernel_rfl)) ?_
       refine pU (i := 11) (N := some 16) (bz 17 4095) (any_of HT_.out (by kernel_rfl)) ?_
       refine pU (i := 12) (N := some 17) (bz 17 8191) (any_of HT_.out (by kernel_rfl)) ?_
       refine pU (i := 13) (N := some 18) (bz 17 16383) (any_of HT_.out (by kernel_rfl)) ?_
       refine pU (i := 14) (N := some 19) (bz 17 32767) (any_of HT_.out (by kernel_rfl)) ?_
       refine pA (i := 15) (N := some 20) (bz 17 65535) (any_of HT_.out (by kernel_rfl)) ?_
       refine pA (i := 16) (N := some 3) (bz 17 131071) (any_of HT_.out (by kernel_rfl)) ?_
       refine done_ (done_of HT_.out (by kernel_rfl)) ?_
       try go_wp2
       go_meet
       case rel => exact ⟨_, (false), rS, H', ⟨oE⟩, ⟨kC BK1a1⟩, ⟨bE⟩⟩
   | clear M3_1
     with_reducible refine (strings_HasPrefix.calls a0_3 (⟨#[47]⟩ : ByteArray) false _ A2.out).mono ?_
     rintro e w' ⟨rfl, ⟨nd, rfl⟩⟩
     refine ⟨_, rfl, ?_⟩
     refine hK.out _ _ (bkc5_ BK1a1) (fun hHeld => ?_)
     clear hK K
     refine nA 7 ?_
     refine pA (i := 3) (N := some 8) (bz 17 15) (any_of HT_.out (by kernel_rfl)) ?_
     refine pU (i := 4) (N := some 9) (bz 17 31) (any_of HT_.out (by kernel_rfl)) ?_
     refine pU (i := 5) (N := some 10) (bz 17 63) (any_of HT_.out (by kernel_rfl)) ?_
     refine pU (i := 6) (N := some 11) (bz 17 127) (any_of HT_.out (by kernel_rfl)) ?_
     refine pA (i := 7) (N := some 12) (bz 17 255) (any_of HT_.out (by kernel_rfl)) ?_
     refine pA (i := 8) (N := some 13) (bz 17 511) (any_of HT_.out (by kernel_rfl)) ?_
     refine pU (i := 9) (N := some 14) (bz 17 1023) (any_of HT_.out (by kernel_rfl)) ?_
     refine pU (i := 10) (N := some 15) (bz 17 2047) (any_of HT_.out (by kernel_rfl)) ?_
     refine pU (i := 11) (N := some 16) (bz 17 4095) (any_of HT_.out (by kernel_rfl)) ?_
     refine pU (i := 12) (N := some 17) (bz 17 8191) (any_of HT_.out (by kernel_rfl)) ?_
     refine pU (i := 13) (N := some 18) (bz 17 16383) (any_of HT_.out (by kernel_rfl)) ?_
     refine pU (i := 14) (N := some 19) (bz 17 32767) (any_of HT_.out (by kernel_rfl)) ?_
     refine pA (i := 15) (N := some 20) (bz 17 65535) (any_of HT_.out (by kernel_rfl)) ?_
     refine pA (i := 16) (N := some 3) (bz 17 131071) (any_of HT_.out (by kernel_rfl)) ?_
     refine done_ (done_of HT_.out (by kernel_rfl)) ?_
     try go_wp2
     go_meet
     case rel => exact ⟨_, (false), rS, H', ⟨oE⟩, ⟨kC BK1a1⟩, ⟨bE⟩⟩
 case rest =>
  clear HC1
  try clear c3
  try clear c5
  obtain ⟨kq, x3_1, rfl, HA, HJ1, BK1a1, HB⟩ := hcut
  cases kq with
  | zero => exact absurd HA.out (by simp [target_Check.j0])
  | succ kj1 =>
   have H := HA.out
   clear HA
   simp only [target_Check.j0] at H
   refine em_ (a0_4.toList = ([] : List UInt8)) (fun c7 => ?g5p) (fun c7 => ?g5n)
   case' g5p =>
    rw [if_pos c7] at H
    have c7b0 : (a0_4.toList == ([] : List UInt8)) = true := beq_iff_eq.mpr c7
    have c7b1 : (a0_4.toList != ([] : List UInt8)) = false := bne_eq_false_iff_eq.mpr c7
    clear c7
    replace H := bd_ H; obtain ⟨t4, A8, H⟩ := H
    refine em_ (t4 = true) (fun c9 => ?g6p) (fun c9 => ?g6n)
    case' g6p =>
     subst c9
     replace H := ifT_ H
     refine em_ (x3_1 = true) (fun c10 => ?g7p) (fun c10 => ?g7n)
     case' g7p =>
      subst c10
      replace H := ifT_ H
      replace H := bd_ H; obtain ⟨t5, A11, H⟩ := H
      obtain rfl := si_ H
      obtain ⟨z12_0, z12_1, z12_2, z12_3, z12_4, zf12_0, zf12_1, zf12_2, zf12_3, zf12_4⟩ := bk5_ BK1a1
     case' g7n =>
      replace c10 := Bool.eq_false_iff.mpr c10
      subst c10
      replace H := ifF_ H
      obtain rfl := si_ H
      obtain ⟨z11_0, z11_1, z11_2, z11_3, z11_4, zf11_0, zf11_1, zf11_2, zf11_3, zf11_4⟩ := bk5_ BK1a1
    case' g6n =>
     replace c9 := Bool.eq_false_iff.mpr c9
     subst c9
     replace H := ifF_ H
     obtain rfl := si_ H
     obtain ⟨z10_0, z10_1, z10_2, z10_3, z10_4, zf10_0, zf10_1, zf10_2, zf10_3, zf10_4⟩ := bk5_ BK1a1
   case' g5n =>
    rw [if_neg c7] at H
    have c7b0 : (a0_4.toList == ([] : List UInt8)) = false := beq_eq_false_iff_ne.mpr c7
    have c7b1 : (a0_4.toList != ([] : List UInt8)) = true := bne_iff_ne.mpr c7
    replace H := bd_ H; obtain ⟨t4, A8, H⟩ := H
    refine em_ (t4 = true) (fun c9 => ?g8p) (fun c9 => ?g8n)
    case' g8p =>
     subst c9
     replace H := ifT_ H
     replace H := bd_ H; obtain ⟨t5, A10, H⟩ := H
     replace H := bd_ H; obtain ⟨t6, A11, H⟩ := H
     refine em_ (t6 = true) (fun c12 => ?g9p) (fun c12 => ?g9n)
     case' g9p =>
      subst c12
      replace H := ifT_ H
      refine em_ (x3_1 = true) (fun c13 => ?g10p) (fun c13 => ?g10n)
      case' g10p =>
       subst c13
       replace H := ifT_ H
       refine em_ (t5 = true) (fun c14 => ?g11p) (fun c14 => ?g11n)
       case' g11p =>
        subst c14
        replace H := ifT_ H
        replace H := bd_ H; obtain ⟨t7, A15, H⟩ := H
        obtain rfl := si_ H
        obtain ⟨z16_0, z16_1, z16_2, z16_3, z16_4, zf16_0, zf16_1, zf16_2, zf16_3, zf16_4⟩ := bk5_ BK1a1
       case' g11n =>
        replace c14 := Bool.eq_false_iff.mpr c14
        subst c14
        replace H := ifF_ H
        obtain rfl := si_ H
        obtain ⟨z15_0, z15_1, z15_2, z15_3, z15_4, zf15_0, zf15_1, zf15_2, zf15_3, zf15_4⟩ := bk5_ BK1a1
      case' g10n =>
       replace c13 := Bool.eq_false_iff.mpr c13
       subst c13
       replace H := ifF_ H
       obtain rfl := si_ H
       obtain ⟨z14_0, z14_1, z14_2, z14_3, z14_4, zf14_0, zf14_1, zf14_2, zf14_3, zf14_4⟩ := bk5_ BK1a1
     case' g9n =>
      replace c12 := Bool.eq_false_iff.mpr c12
      subst c12
      replace H := ifF_ H
      obtain rfl := si_ H
      obtain ⟨z13_0, z13_1, z13_2, z13_3, z13_4, zf13_0, zf13_1, zf13_2, zf13_3, zf13_4⟩ := bk5_ BK1a1
    case' g8n =>
     replace c9 := Bool.eq_false_iff.mpr c9
     subst c9
     replace H := ifF_ H
     replace H := bd_ H; obtain ⟨t5, A10, H⟩ := H
     refine em_ (t5 = true) (fun c11 => ?g12p) (fun c11 => ?g12n)
     case' g12p =>
      subst c11
      replace H := ifT_ H
      refine em_ (x3_1 = true) (fun c12 => ?g13p) (fun c12 => ?g13n)
      case' g13p =>
       subst c12
       replace H := ifT_ H
       obtain rfl := si_ H
       obtain ⟨z13_0, z13_1, z13_2, z13_3, z13_4, zf13_0, zf13_1, zf13_2, zf13_3, zf13_4⟩ := bk5_ BK1a1
      case' g13n =>
       replace c12 := Bool.eq_false_iff.mpr c12
       subst c12
       replace H := ifF_ H
       obtain rfl := si_ H
       obtain ⟨z13_0, z13_1, z13_2, z13_3, z13_4, zf13_0, zf13_1, zf13_2, zf13_3, zf13_4⟩ := bk5_ BK1a1
     case' g12n =>
      replace c11 := Bool.eq_false_iff.mpr c11
      subst c11
      replace H := ifF_ H
      obtain rfl := si_ H
      obtain ⟨z12_0, z12_1, z12_2, z12_3, z12_4, zf12_0, zf12_1, zf12_2, zf12_3, zf12_4⟩ := bk5_ BK1a1
   all_goals
    go_wp2_with (first | ((with_reducible refine gate_callee (f := 98) rfl ?_); refine gL (some 36) Tryz.func98 #[.agg #[.string a0_0, .string a0_1, .int .i64 a0_2]] ?_; (with_reducible refine (origin_Check.calls kj1 a0_0 a0_1 a0_2 _ _ A8.out).mono ?_); rintro e w2a1 ⟨rfl, hb⟩; refine ⟨_, rfl, ?_⟩; replace BK1a1 := kM BK1a1 hb; replace HB := bS bE hb; (try clear hb); obtain ⟨z2a2_0, z2a2_1, z2a2_2, z2a2_3, z2a2_4, zf2a2_0, zf2a2_1, zf2a2_2, zf2a2_3, zf2a2_4⟩ := bk5_ BK1a1) | (go_at_call 94; (with_reducible refine (target_show.calls kj1 a0_0 a0_1 a0_2 a0_3 a0_4 _ _ ?side1 A11.out).mono ?_); (case side1 => exact ⟨lE⟩); rintro e w3a1 ⟨rfl, hb⟩; replace BK1a1 := kM BK1a1 hb; replace HB := bS bE hb; (try clear hb)) | (go_at_call 157; (with_reducible refine (strings_HasPrefix.calls a0_4 (⟨#[63]⟩ : ByteArray) _ _ A8.out).mono ?_); rintro e w' ⟨rfl, ⟨nd, rfl⟩⟩) | (go_at_call 92; (with_reducible refine (target_all.calls kj1 a0_4 (⟨#[34, 35, 60, 62]⟩ : ByteArray) _ _ A10.out).mono ?_); rintro e w' ⟨rfl, ⟨nd, rfl⟩⟩) | ((with_reducible refine gate_callee (f := 98) rfl ?_); refine gL (some 36) Tryz.func98 #[.agg #[.string a0_0, .string a0_1, .int .i64 a0_2]] ?_; (with_reducible refine (origin_Check.calls kj1 a0_0 a0_1 a0_2 _ _ A11.out).mono ?_); rintro e w6a1 ⟨rfl, hb⟩; refine ⟨_, rfl, ?_⟩; replace BK1a1 := kM BK1a1 hb; replace HB := bS bE hb; (try clear hb); obtain ⟨z6a2_0, z6a2_1, z6a2_2, z6a2_3, z6a2_4, zf6a2_0, zf6a2_1, zf6a2_2, zf6a2_3, zf6a2_4⟩ := bk5_ BK1a1) | (go_at_call 94; (with_reducible refine (target_show.calls kj1 a0_0 a0_1 a0_2 a0_3 a0_4 _ _ ?side1 A15.out).mono ?_); (case side1 => exact ⟨lE⟩); rintro e w7a1 ⟨rfl, hb⟩; replace BK1a1 := kM BK1a1 hb; replace HB := bS bE hb; (try clear hb)) | ((with_reducible refine gate_callee (f := 98) rfl ?_); refine gL (some 36) Tryz.func98 #[.agg #[.string a0_0, .string a0_1, .int .i64 a0_2]] ?_; (with_reducible refine (origin_Check.calls kj1 a0_0 a0_1 a0_2 _ _ A10.out).mono ?_); rintro e w8a1 ⟨rfl, hb⟩; refine ⟨_, rfl, ?_⟩; replace BK1a1 := kM BK1a1 hb; replace HB := bS bE hb; (try clear hb)))
    go_ret
    exact ⟨rE, bE⟩

/-! ### target_Show: function 58 -/
def target_Show.f (k : Nat) (a0_0 : ByteArray) (a0_1 : ByteArray) (a0_2 : Int) (a0_3 : ByteArray) (a0_4 : ByteArray) : Option (ByteArray) := (target_Check.f k a0_0 a0_1 a0_2 a0_3 a0_4).bind fun t362 => (if t362 = true then ((target_show.f k a0_0 a0_1 a0_2 a0_3 a0_4).bind fun t363 => (some t363)) else (some (⟨#[]⟩ : ByteArray)))
theorem target_Show.mono : ∀ a0 a1 a2 a3 a4 k, LeO (target_Show.f k a0 a1 a2 a3 a4) (target_Show.f (k + 1) a0 a1 a2 a3 a4) := by
 intro a0 a1 a2 a3 a4 k
 have hm0 := @target_Check.mono; have hm1 := @target_show.mono; unfold target_Show.f
 exact moE

set_option maxHeartbeats 8000000 in
set_option maxRecDepth 100000 in
theorem target_Show.calls (k : Nat) (a0_0 : ByteArray) (a0_1 : ByteArray) (a0_2 : Int) (a0_3 : ByteArray) (a0_4 : ByteArray) (r : ByteArray) (w : World) (hM_ : Aside0 (LaidW w)) (h : target_Show.f k a0_0 a0_1 a0_2 a0_3 a0_4 = some r) :
  Calls Tryz.prog 58 #[.agg #[.string a0_0, .string a0_1, .int .i64 a0_2, .string a0_3, .string a0_4]] w fun e w' => e = .returned (.string r) ∧ Below w.heap.size w w' := by
 have hu72 := Tryz.underlying72
 have HB := Aside0.mk (Below.refl w.heap.size w)
 have H : ((target_Check.f k a0_0 a0_1 a0_2 a0_3 a0_4).bind fun t1 => (if t1 = true then ((target_show.f k a0_0 a0_1 a0_2 a0_3 a0_4).bind fun t2 => (some t2)) else (some (⟨#[]⟩ : ByteArray)))) = some r := h
 clear h
 replace H := bd_ H; obtain ⟨t1, A1, H⟩ := H
 refine em_ (t1 = true) (fun c2 => ?g1p) (fun c2 => ?g1n)
 case' g1p =>
  subst c2
  replace H := ifT_ H
  replace H := bd_ H; obtain ⟨t2, A3, H⟩ := H
  obtain rfl := si_ H
 case' g1n =>
  replace c2 := Bool.eq_false_iff.mpr c2
  subst c2
  replace H := ifF_ H
  obtain rfl := si_ H
 all_goals
  go_enter Tryz.func58, Tryz.ntmps58
  go_wp2_with (first | ((with_reducible refine gate_dst (N := 1) rfl ?_); refine bxE (N := 1) (cs := #[.string a0_0, .string a0_1, .int .i64 a0_2, .string a0_3, .string a0_4]) (t := 72) fun gb1a1 hg w1a2 hbox hb => ?_; obtain ⟨HB', BK1a1, GW1a1⟩ := bx_ bE hg hbox hb; have GE1a1 := GW1a1; clear HB hb hbox hg; have HB := HB'; clear HB'; obtain ⟨z1a3_0, z1a3_1, z1a3_2, z1a3_3, z1a3_4, zf1a3_0, zf1a3_1, zf1a3_2, zf1a3_3, zf1a3_4⟩ := bk5_ BK1a1) | ((with_reducible refine gate_callee (f := 117) rfl ?_); refine gL (some 4) Tryz.func117 #[.agg #[.string a0_0, .string a0_1, .int .i64 a0_2, .string a0_3, .string a0_4]] ?_; (with_reducible refine (target_Check.calls k a0_0 a0_1 a0_2 a0_3 a0_4 _ _ ?side1 A1.out).mono ?_); (case side1 => exact ⟨lE⟩); rintro e w2a1 ⟨rfl, hb⟩; refine ⟨_, rfl, ?_⟩; replace BK1a1 := kM BK1a1 hb; replace HB := bS bE hb; (try clear hb); obtain ⟨z2a2_0, z2a2_1, z2a2_2, z2a2_3, z2a2_4, zf2a2_0, zf2a2_1, zf2a2_2, zf2a2_3, zf2a2_4⟩ := bk5_ BK1a1) | ((with_reducible refine gate_callee (f := 94) rfl ?_); refine gL (some 7) Tryz.func94 #[.agg #[.string a0_0, .string a0_1, .int .i64 a0_2, .string a0_3, .string a0_4]] ?_; (with_reducible refine (target_show.calls k a0_0 a0_1 a0_2 a0_3 a0_4 _ _ ?side1 A3.out).mono ?_); (case side1 => exact ⟨lE⟩); rintro e w3a1 ⟨rfl, hb⟩; refine ⟨_, rfl, ?_⟩; replace BK1a1 := kM BK1a1 hb; replace HB := bS bE hb; (try clear hb)))
  go_ret
  exact ⟨rE, bE⟩

end Go.Proofs.YtfmajangcbgooaaGreatDoor.Pr
