import Derived.Test.YtfmajangcbgooaaGreatDoorPr0
import Derived.Test.YtfmajangcbgooaaGreatDoorK0
import Derived.Test.YtfmajangcbgooaaGreatDoorPr1
import Derived.Test.YtfmajangcbgooaaGreatDoorG0
import Derived.Test.YtfmajangcbgooaaGreatDoorG1
namespace Go.Proofs.YtfmajangcbgooaaGreatDoor.Pr
open Go.RowKit Go.Proofs.YtfmajangcbgooaaGreatDoorW.PrintWords Go.Proofs.YtfmajangcbgooaaGreatDoorW.PrintLast Go.Proofs.YtfmajangcbgooaaGreatDoorW.PrintMore
attribute [local go_sem] max2_int min2_int max_two min_two max_three min_three max_four min_four
set_option linter.unusedVariables false
set_option maxHeartbeats 64000000
set_option maxRecDepth 100000
set_option linter.unusedSimpArgs false
def header_Check.l0 : Nat → List (S28) → Int → Int → Option (Int)
 | 0, _, _, _ => none
 | k + 1, c, d, a => if a < d then (if 0 ≤ a then (if a < (c.length : Int) then ((header_isHeader.f k ((rd_T28 c a).f0) ((rd_T28 c a).f1)).bind fun b => (if b = true then (header_Check.l0 k c d (wrap64 (a + 1))) else (some 6))) else (none)) else (none)) else (some 0)
def header_Check.f (k : Nat) (l0 : List (S28)) : Option (Int) := if (l0.length : Int) > 32 then (some 4) else (header_Check.l0 k l0 (l0.length : Int) 0)
theorem header_Check.mono_l : ∀ k, (∀ a b c, LeO (header_Check.l0 k a b c) (header_Check.l0 (k + 1) a b c))
 | 0 => fun _ _ _ r h => by simp [header_Check.l0] at h
 | k + 1 => by
  have ih0 := header_Check.mono_l k
  ·intros
   have d := @header_isHeader.mono; unfold header_Check.l0
   exact moE
theorem header_Check.mono : ∀ a k, LeO (header_Check.f k a) (header_Check.f (k + 1) a) := by
 intro a k
 have ih0 := header_Check.mono_l k
 have b := @header_isHeader.mono; unfold header_Check.f
 exact moE
theorem header_Check.calls (k : Nat) (W : Option Addr) (X : Nat) (l0 : List (S28)) (r : Int) (w : World) (u : Kd.C k28 w W l0.length l0) (v : l0.length ≤ X) (h : header_Check.f k l0 = some r) :
  Calls Tryz.prog 101 #[.slice W l0.length X] w fun e w' => e = .returned (.int .i64 r) ∧ Below w.heap.size w w' := by
 have Y := Tryz.underlying28; have x := Aside0.mk u; have a3 := Aside0.mk v; clear u v; have HB := Aside0.mk (Below.refl w.heap.size w); have H := h; clear h; unfold header_Check.f at H; revert H; refine itePP_ (fun s H => ?g1p) (fun s H => ?g1n)
 case' g1p =>
  have i : decide (32 < (l0.length : Int)) = true := decide_eq_true s; have j : decide (32 < l0.length) = true := decide_eq_true (by omega); clear s; obtain rfl := si_ H; have y := trivial
 case' g1n =>
  have i : decide (32 < (l0.length : Int)) = false := decide_eq_false s; have j : decide (32 < l0.length) = false := decide_eq_false (by omega); clear s; have H' := Aside0.mk H; clear H; have z := trivial
 all_goals
  go_enter Tryz.func101, Tryz.ntmps101; go_wp2
  first
  | clear y
    go_ret; exact ⟨rE, bE⟩
  | clear z
    go_loopg [10] k (fun kq A w' => ∃ (a : Int), A = .int .i64 a ∧ Aside0 (header_Check.l0 kq l0 (l0.length : Int) a = some r) ∧ Aside0 (kq ≤ k) ∧ Aside0 (Below w.heap.size w w'))
    case atStart => exact ⟨(0), rS, H', ⟨Nat.le_refl _⟩, ⟨bE⟩⟩
    case round =>
     clear H'; (try clear s); (try clear i); (try clear j); obtain ⟨a, rfl, HA, B, HB⟩ := hrel
     cases gk with
     | zero => exact absurd HA.out (by simp [header_Check.l0])
     | succ k1 =>
      have H := HA.out; clear HA
      simp only [header_Check.l0] at H
      revert H; refine iteDD_ (fun D H => ?g3p) (fun D H => ?g3n)
      case' g3p =>
       revert H; refine iteND_ fun Z => iteND_ fun a0 H => ?_; replace H := bd_ H; obtain ⟨t1, A7, H⟩ := H; revert H; refine iteB_ (fun L H => ?g4p) (fun L H => ?g4n)
       case' g4p =>
        subst L; have H' := Aside0.mk H; clear H; have m : 0 ≤ (a : Int) := of_decide_eq_true mE; have n : a < (l0.length : Int) := of_decide_eq_true mE; obtain ⟨M, O, b, c⟩ := at_T28 x.out a m n
        cases O
        replace b := (HB.out.cell (World.block_lt_of_cell? w _ b)).trans b; replace c := (HB.out.cell (World.block_lt_of_cell? w _ c)).trans c; replace m := eq_true m; replace n := eq_true n; have E := trivial
       case' g4n =>
        subst L; obtain rfl := si_ H; have m : 0 ≤ (a : Int) := of_decide_eq_true mE; have n : a < (l0.length : Int) := of_decide_eq_true mE; obtain ⟨M, O, b, c⟩ := at_T28 x.out a m n
        cases O
        replace b := (HB.out.cell (World.block_lt_of_cell? w _ b)).trans b; replace c := (HB.out.cell (World.block_lt_of_cell? w _ c)).trans c; replace m := eq_true m; replace n := eq_true n; have l := trivial
      case' g3n =>
       obtain rfl := si_ H; have l := trivial
      all_goals
       go_wp2_with (first | ((with_reducible refine gate_dst (N := 4) rfl ?_); refine bxE (N := 4) (cs := #[.string ⟨#[]⟩, .string ⟨#[]⟩]) (t := 28) fun p hg a1 hbox hb => ?_; obtain ⟨HB', d, q⟩ := bx_ bE hg hbox hb; have U := q; clear HB hb hbox hg; have HB := HB'; clear HB'; obtain ⟨J, K, G, I⟩ := bk2_ d) | ((with_reducible refine gate_callee (f := 148) rfl ?_); refine gL _ Tryz.func148 _ ((header_isHeader.calls k1 ((rd_T28 l0 a).f0) ((rd_T28 l0 a).f1) _ _ A7.out).mono ?_); rintro e a2 ⟨rfl, hb⟩; refine ⟨_, rfl, ?_⟩; have n0_ := Aside0.mk (blk_below (g := p) (o := .cells #[.string ((rd_T28 l0 a).f0), .string ((rd_T28 l0 a).f1)] 28 (0, 0)) (kT) hb); have n1_ := bS bE hb; clear d; clear HB; have d := n0_; have HB := n1_; clear n0_ n1_; (try clear hb); (try clear hb2); (try clear hk); (try clear hi)))
       first
       | clear E
         go_roundg k1
         case measure => have := B.out; omega
         case rel => exact ⟨(wrap64 (a + 1)), rS, H', ⟨by have := B.out; omega⟩, ⟨bE⟩⟩
       | clear l
         go_ret; exact ⟨rE, bE⟩
def ask_fields.j0 : Nat → Bool → ByteArray → ByteArray → ByteArray → Int → Bool → List (S28) → Int → Int → Int → Int → Option (Int)
 | 0, _, _, _, _, _, _, _, _, _, _, _ => none
 | k + 1, n, d, e, g, i, j, l, m, a, b, c => if n = true then (some 8) else (if a > 600 then (some 9) else (if b < 0 then (some 2) else (if c < 0 then (some 2) else (some 0))))
def ask_fields.f (k : Nat) (b e g : ByteArray) (c : Int) (i : Bool) (d : List (S28)) (a j l m : Int) : Option (Int) := (method_Check.f k b).bind fun n => (if n = 0 then ((ask_isMode.f c).bind fun p => (if p = true then ((header_Check.f k d).bind fun o => (if o = 0 then (if a < 1 then (ask_fields.j0 k true b e g c i d a j l m) else (ask_fields.j0 k (decide (a > 6)) b e g c i d a j l m)) else (some o))) else (some 7))) else (some n))
theorem ask_fields.mono_l : ∀ k, (∀ b c d e g i j l m n a, LeO (ask_fields.j0 k b c d e g i j l m n a) (ask_fields.j0 (k + 1) b c d e g i j l m n a))
 | 0 => fun _ _ _ _ _ _ _ _ _ _ _ r h => by simp [ask_fields.j0] at h
 | k + 1 => by
  have ih0 := ask_fields.mono_l k
  ·intros
   have o := @header_Check.mono; have p := @method_Check.mono; unfold ask_fields.j0
   exact moE
theorem ask_fields.mono : ∀ a b c d e g i j l m k, LeO (ask_fields.f k a b c d e g i j l m) (ask_fields.f (k + 1) a b c d e g i j l m) := by
 intro a b c d e g i j l m k
 have ih0 := ask_fields.mono_l k
 have n := @header_Check.mono; have o := @method_Check.mono; unfold ask_fields.f
 exact moE
theorem ask_fields.calls (k : Nat) (c i j : ByteArray) (d : Int) (l : Bool) (p : Option Addr) (q : Nat) (b : List (S28)) (g m n o r : Int) (w : World) (al : Kd.C k28 w p b.length b) (am : b.length ≤ q) (h : ask_fields.f k c i j d l b g m n o = some r) :
  Calls Tryz.prog 47 #[.agg #[.string c, .string i, .string j, .int .i64 d, .bool l, .slice p b.length q, .int .i64 g, .int .u64 m, .int .i64 n, .int .i64 o]] w fun e w' => e = .returned (.int .i64 r) ∧ Below w.heap.size w w' := by
 have hu26 := Tryz.underlying26; have an := Aside0.mk al; have ao := Aside0.mk am; clear al am; have HB := Aside0.mk (Below.refl w.heap.size w); have H := h; clear h; unfold ask_fields.f at H; replace H := bd_ H; obtain ⟨t1, A2, H⟩ := H; revert H; refine iteEF_ (fun aO aP H => ?g1p) (fun c3 aO aP H => ?g1n)
 case' g1p =>
  replace H := bd_ H; obtain ⟨t2, A4, H⟩ := H; revert H; refine iteB_ (fun c5 H => ?g2p) (fun c5 H => ?g2n)
  case' g2p =>
   subst c5; replace H := bd_ H; obtain ⟨t3, A6, H⟩ := H; revert H; refine iteEF_ (fun aQ aR H => ?g3p) (fun c7 aQ aR H => ?g3n)
   case' g3p =>
    have aS := Aside0.mk H; clear H; have bi := trivial
   case' g3n =>
    obtain rfl := si_ H; have ap := trivial
  case' g2n =>
   subst c5; obtain rfl := si_ H; have ap := trivial
 case' g1n =>
  obtain rfl := si_ H; have ap := trivial
 all_goals
  go_enter Tryz.func47, Tryz.ntmps47
  first
  | clear bi
    go_upto_region 9 with (first | ((with_reducible refine gate_dst (N := 1) rfl ?_); refine bxE (N := 1) (cs := #[.string c, .string i, .string j, .int .i64 d, .bool l, .slice p b.length q, .int .i64 g, .int .u64 m, .int .i64 n, .int .i64 o]) (t := 26) fun aq hg bj hbox hb => ?_; obtain ⟨HB', a, Z⟩ := bx_ bE hg hbox hb; have aT := Z; clear HB hb hbox hg; have HB := HB'; clear HB'; obtain ⟨a1, a2, a3, a4, a5, a6, a7, a8, a9, aa, s, u, v, x, y, z, A, B, D, E⟩ := bk10_ a) | ((with_reducible refine gate_callee (f := 99) rfl ?_); refine gL _ Tryz.func99 _ ((method_Check.calls k c t1 _ A2.out).mono ?_); rintro e bk ⟨rfl, hb⟩; refine ⟨_, rfl, ?_⟩; replace a := kM a hb; replace HB := bS bE hb; (try clear hb); obtain ⟨ab, ac, ad, ae, af, ag, ah, ai, aj, ak, G, I, J, K, L, M, O, U, W, X⟩ := bk10_ a) | ((with_reducible refine gate_callee (f := 100) rfl ?_); refine gL _ Tryz.func100 _ ((ask_isMode.calls d true _ A4.out).mono ?_); rintro e w' ⟨rfl, ⟨nd, rfl⟩⟩; refine ⟨_, rfl, ?_⟩) | ((with_reducible refine gate_callee (f := 101) rfl ?_); refine gL _ Tryz.func101 _ ((header_Check.calls k _ _ b t3 _ ?side1 ?side2 A6.out).mono ?_); (case side1 => repeat (first | exact (Kd.C_below an.out bE) | (with_reducible refine Kd.C_alloc ?_ _) | (with_reducible refine Kd.C_drewN ?_ _) | (with_reducible refine Kd.C_drew ?_))); (case side2 => exact ao.out); rintro e bl ⟨rfl, hb⟩; refine ⟨_, rfl, ?_⟩; replace a := kM a hb; replace HB := bS bE hb; (try clear hb)))
    (try simp only [Act.put, List.setIfInBounds_toArray, List.set_cons_zero, List.set_cons_succ])
    go_cut [21] (fun bm wc => ∃ (kq : Nat) (a0 : Bool), bm = .bool a0 ∧ Aside0 (ask_fields.j0 kq a0 c i j d l b g m n o = some r) ∧ Aside0 (kq ≤ k) ∧ Aside0 (wc.heap[aq]? = some (.cells #[.string c, .string i, .string j, .int .i64 d, .bool l, (.slice p b.length q), .int .i64 g, .int .u64 m, .int .i64 n, .int .i64 o] 26 (0, 0))) ∧ Aside0 (Below w.heap.size w wc))
    case first =>
     have H := aS.out; clear aS; revert H; refine iteDD_ (fun Y H => ?g5p) (fun Y H => ?g5n)
     case' g5p =>
      (first | rw [Y] | (simp only [i64_w, i32_w]; rw [Y]) | skip); have H' := Aside0.mk H; clear H; obtain ⟨aU, aV, aW, aX, aY, aZ, a_, b0, b1, b2, ar, au, av, aw, ax, ay, az, aA, aB, aC⟩ := bk10_ a; have bn := trivial
     case' g5n =>
      (first | rw [Y] | (simp only [i64_w, i32_w]; rw [Y]) | skip); have H' := Aside0.mk H; clear H; obtain ⟨aU, aV, aW, aX, aY, aZ, a_, b0, b1, b2, ar, au, av, aw, ax, ay, az, aA, aB, aC⟩ := bk10_ a; have bo := trivial
     all_goals
      go_wp2; go_meet
      first
      | clear bn
        case rel => exact ⟨_, (true), rS, H', ⟨oE⟩, ⟨kC a⟩, ⟨bE⟩⟩
      | clear bo
        case rel => exact ⟨_, (decide (g > 6)), rS, H', ⟨oE⟩, ⟨kC a⟩, ⟨bE⟩⟩
    case rest =>
     clear aS; (try clear c3); (try clear aO); (try clear aP); (try clear c5); (try clear c7); (try clear aQ); (try clear aR); (try clear a1); (try clear a2); (try clear a3); (try clear a4); (try clear a5); (try clear a6); (try clear a7); (try clear a8); (try clear a9); (try clear aa); (try clear ab); (try clear ac); (try clear ad); (try clear ae); (try clear af); (try clear ag); (try clear ah); (try clear ai); (try clear aj); (try clear ak); (try clear s); (try clear u); (try clear v); (try clear x); (try clear y); (try clear z); (try clear A); (try clear B); (try clear D); (try clear E); (try clear G); (try clear I); (try clear J); (try clear K); (try clear L); (try clear M); (try clear O); (try clear U); (try clear W); (try clear X); obtain ⟨kq, a0, rfl, HA, HJ7, a, HB⟩ := hcut
     cases kq with
     | zero => exact absurd HA.out (by simp [ask_fields.j0])
     | succ kj7 =>
      have H := HA.out; clear HA
      simp only [ask_fields.j0] at H
      revert H; refine iteB_ (fun b3 H => ?g7p) (fun b3 H => ?g7n)
      case' g7p =>
       subst b3; obtain rfl := si_ H
      case' g7n =>
       subst b3; revert H; refine iteGG_ (fun b4 H => ?g8p) (fun b4 H => ?g8n)
       case' g8p =>
        obtain rfl := si_ H; obtain ⟨z15_0, z15_1, z15_2, z15_3, z15_4, z15_5, z15_6, z15_7, z15_8, z15_9, zf15_0, zf15_1, zf15_2, zf15_3, zf15_4, zf15_5, zf15_6, zf15_7, zf15_8, zf15_9⟩ := bk10_ a
       case' g8n =>
        revert H; refine iteDD_ (fun b5 H => ?g9p) (fun b5 H => ?g9n)
        case' g9p =>
         obtain rfl := si_ H; obtain ⟨z16_0, z16_1, z16_2, z16_3, z16_4, z16_5, z16_6, z16_7, z16_8, z16_9, zf16_0, zf16_1, zf16_2, zf16_3, zf16_4, zf16_5, zf16_6, zf16_7, zf16_8, zf16_9⟩ := bk10_ a
        case' g9n =>
         revert H; refine iteDD_ (fun b6 H => ?g10p) (fun b6 H => ?g10n)
         case' g10p =>
          obtain rfl := si_ H; obtain ⟨b7, b8, b9, ba, bb, bc, be, bf, bg, bh, aD, aE, aF, aG, aH, aI, aJ, aK, aL, aN⟩ := bk10_ a
         case' g10n =>
          obtain rfl := si_ H; obtain ⟨b7, b8, b9, ba, bb, bc, be, bf, bg, bh, aD, aE, aF, aG, aH, aI, aJ, aK, aL, aN⟩ := bk10_ a
      all_goals
       go_wp2; go_ret; exact ⟨rE, bE⟩
  | clear ap
    go_wp2_with (first | ((with_reducible refine gate_dst (N := 1) rfl ?_); refine bxE (N := 1) (cs := #[.string c, .string i, .string j, .int .i64 d, .bool l, .slice p b.length q, .int .i64 g, .int .u64 m, .int .i64 n, .int .i64 o]) (t := 26) fun aq hg bj hbox hb => ?_; obtain ⟨HB', a, Z⟩ := bx_ bE hg hbox hb; have aT := Z; clear HB hb hbox hg; have HB := HB'; clear HB'; obtain ⟨a1, a2, a3, a4, a5, a6, a7, a8, a9, aa, s, u, v, x, y, z, A, B, D, E⟩ := bk10_ a) | ((with_reducible refine gate_callee (f := 99) rfl ?_); refine gL _ Tryz.func99 _ ((method_Check.calls k c _ _ A2.out).mono ?_); rintro e bk ⟨rfl, hb⟩; refine ⟨_, rfl, ?_⟩; replace a := kM a hb; replace HB := bS bE hb; (try clear hb); obtain ⟨ab, ac, ad, ae, af, ag, ah, ai, aj, ak, G, I, J, K, L, M, O, U, W, X⟩ := bk10_ a) | ((with_reducible refine gate_callee (f := 100) rfl ?_); refine gL _ Tryz.func100 _ ((ask_isMode.calls d _ _ A4.out).mono ?_); rintro e w' ⟨rfl, ⟨nd, rfl⟩⟩; refine ⟨_, rfl, ?_⟩) | ((with_reducible refine gate_callee (f := 101) rfl ?_); refine gL _ Tryz.func101 _ ((header_Check.calls k _ _ b t3 _ ?side1 ?side2 A6.out).mono ?_); (case side1 => repeat (first | exact (Kd.C_below an.out bE) | (with_reducible refine Kd.C_alloc ?_ _) | (with_reducible refine Kd.C_drewN ?_ _) | (with_reducible refine Kd.C_drew ?_))); (case side2 => exact ao.out); rintro e bl ⟨rfl, hb⟩; refine ⟨_, rfl, ?_⟩; replace a := kM a hb; replace HB := bS bE hb; (try clear hb))); go_ret; exact ⟨rE, bE⟩
def method_known.l0 : Nat → ByteArray → Int → Option (ByteArray)
 | 0, _, _ => none
 | k + 1, c, a => if a < 6 then (if 0 ≤ a then ((octet_Fold.f c (rdOf ByteArray.empty ([(⟨#[68, 69, 76, 69, 84, 69]⟩ : ByteArray), (⟨#[71, 69, 84]⟩ : ByteArray), (⟨#[72, 69, 65, 68]⟩ : ByteArray), (⟨#[79, 80, 84, 73, 79, 78, 83]⟩ : ByteArray), (⟨#[80, 79, 83, 84]⟩ : ByteArray), (⟨#[80, 85, 84]⟩ : ByteArray)] : List ByteArray) a)).bind fun b => (if b = true then (some (rdOf ByteArray.empty ([(⟨#[68, 69, 76, 69, 84, 69]⟩ : ByteArray), (⟨#[71, 69, 84]⟩ : ByteArray), (⟨#[72, 69, 65, 68]⟩ : ByteArray), (⟨#[79, 80, 84, 73, 79, 78, 83]⟩ : ByteArray), (⟨#[80, 79, 83, 84]⟩ : ByteArray), (⟨#[80, 85, 84]⟩ : ByteArray)] : List ByteArray) a)) else (method_known.l0 k c (wrap64 (a + 1))))) else (none)) else (some (⟨#[]⟩ : ByteArray))
def method_known.f (k : Nat) (a : ByteArray) : Option (ByteArray) := method_known.l0 k a 0
theorem method_known.mono_l : ∀ k, (∀ a b, LeO (method_known.l0 k a b) (method_known.l0 (k + 1) a b))
 | 0 => fun _ _ r h => by simp [method_known.l0] at h
 | k + 1 => by
  have ih0 := method_known.mono_l k
  ·intros
   unfold method_known.l0
   exact moE
theorem method_known.mono : ∀ a k, LeO (method_known.f k a) (method_known.f (k + 1) a) := by
 intro a k
 have ih0 := method_known.mono_l k
 unfold method_known.f
 exact moE
theorem method_known.calls (k : Nat) (c r : ByteArray) (w : World) (h : method_known.f k c = some r) :
  Calls Tryz.prog 76 #[.string c] w fun e w' => e = .returned (.string r) ∧ Below w.heap.size w w' := by
 have HB := Aside0.mk (Below.refl w.heap.size w); have H : (method_known.l0 k c 0) = some r := h; clear h; have H' := Aside0.mk H; clear H; go_enter Tryz.func76, Tryz.ntmps76; go_wp2
 go_loopg [6] k (fun kq d w' => ∃ (a : Int), d = .int .i64 a ∧ Aside0 (method_known.l0 kq c a = some r) ∧ Aside0 (kq ≤ k) ∧ Aside0 (Below w.heap.size w w'))
 case atStart => exact ⟨(0), rS, H', ⟨Nat.le_refl _⟩, ⟨bE⟩⟩
 case round =>
  clear H'; obtain ⟨a, rfl, HA, g, HB⟩ := hrel
  cases gk with
  | zero => exact absurd HA.out (by simp [method_known.l0])
  | succ k1 =>
   have H := HA.out; clear HA
   simp only [method_known.l0] at H
   revert H; refine iteDD_ (fun i H => ?g1p) (fun i H => ?g1n)
   case' g1p =>
    revert H; refine iteND_ fun n H => ?_; replace H := bd_ H; obtain ⟨s, o, H⟩ := H; revert H; refine iteB_ (fun l H => ?g2p) (fun l H => ?g2n)
    case' g2p =>
     subst l; obtain rfl := si_ H; have m := XA.arr_at (P := Tryz.prog) (t := 124) (e := 9) 6 ([(⟨#[68, 69, 76, 69, 84, 69]⟩ : ByteArray), (⟨#[71, 69, 84]⟩ : ByteArray), (⟨#[72, 69, 65, 68]⟩ : ByteArray), (⟨#[79, 80, 84, 73, 79, 78, 83]⟩ : ByteArray), (⟨#[80, 79, 83, 84]⟩ : ByteArray), (⟨#[80, 85, 84]⟩ : ByteArray)] : List ByteArray) Tryz.underlying124 Tryz.underlying9 (by kernel_rfl) rfl #[Value.string ⟨#[68, 69, 76, 69, 84, 69]⟩, Value.string ⟨#[71, 69, 84]⟩, Value.string ⟨#[72, 69, 65, 68]⟩, Value.string ⟨#[79, 80, 84, 73, 79, 78, 83]⟩, Value.string ⟨#[80, 79, 83, 84]⟩, Value.string ⟨#[80, 85, 84]⟩] rfl (a : Int) (of_decide_eq_true mE) (of_decide_eq_true mE); have b := trivial
    case' g2n =>
     subst l; have H' := Aside0.mk H; clear H; have m := XA.arr_at (P := Tryz.prog) (t := 124) (e := 9) 6 ([(⟨#[68, 69, 76, 69, 84, 69]⟩ : ByteArray), (⟨#[71, 69, 84]⟩ : ByteArray), (⟨#[72, 69, 65, 68]⟩ : ByteArray), (⟨#[79, 80, 84, 73, 79, 78, 83]⟩ : ByteArray), (⟨#[80, 79, 83, 84]⟩ : ByteArray), (⟨#[80, 85, 84]⟩ : ByteArray)] : List ByteArray) Tryz.underlying124 Tryz.underlying9 (by kernel_rfl) rfl #[Value.string ⟨#[68, 69, 76, 69, 84, 69]⟩, Value.string ⟨#[71, 69, 84]⟩, Value.string ⟨#[72, 69, 65, 68]⟩, Value.string ⟨#[79, 80, 84, 73, 79, 78, 83]⟩, Value.string ⟨#[80, 79, 83, 84]⟩, Value.string ⟨#[80, 85, 84]⟩] rfl (a : Int) (of_decide_eq_true mE) (of_decide_eq_true mE); have j := trivial
   case' g1n =>
    obtain rfl := si_ H; have b := trivial
   all_goals
    go_wp2_with (first | ((with_reducible refine gate_callee (f := 70) rfl ?_); refine gL _ Tryz.func70 _ ((octet_Fold.calls c (rdOf ByteArray.empty ([(⟨#[68, 69, 76, 69, 84, 69]⟩ : ByteArray), (⟨#[71, 69, 84]⟩ : ByteArray), (⟨#[72, 69, 65, 68]⟩ : ByteArray), (⟨#[79, 80, 84, 73, 79, 78, 83]⟩ : ByteArray), (⟨#[80, 79, 83, 84]⟩ : ByteArray), (⟨#[80, 85, 84]⟩ : ByteArray)] : List ByteArray) a) true _ o.out).mono ?_); rintro e p ⟨rfl, hb⟩; refine ⟨_, rfl, ?_⟩; replace HB := bS bE hb; (try clear hb)) | ((with_reducible refine gate_callee (f := 70) rfl ?_); refine gL _ Tryz.func70 _ ((octet_Fold.calls c (rdOf ByteArray.empty ([(⟨#[68, 69, 76, 69, 84, 69]⟩ : ByteArray), (⟨#[71, 69, 84]⟩ : ByteArray), (⟨#[72, 69, 65, 68]⟩ : ByteArray), (⟨#[79, 80, 84, 73, 79, 78, 83]⟩ : ByteArray), (⟨#[80, 79, 83, 84]⟩ : ByteArray), (⟨#[80, 85, 84]⟩ : ByteArray)] : List ByteArray) a) false _ o.out).mono ?_); rintro e q ⟨rfl, hb⟩; refine ⟨_, rfl, ?_⟩; replace HB := bS bE hb; (try clear hb)))
    first
    | clear b
      go_ret; exact ⟨rE, bE⟩
    | clear j
      go_roundg k1
      case measure => have := g.out; omega
      case rel => exact ⟨(wrap64 (a + 1)), rS, H', ⟨by have := g.out; omega⟩, ⟨bE⟩⟩
def method_Safe.f (k : Nat) (b : ByteArray) : Option (Bool) := (method_known.f k b).bind fun a => (if a.toList = ([71, 69, 84] : List UInt8) then (some true) else (if a.toList = ([72, 69, 65, 68] : List UInt8) then (some true) else (if a.toList = ([80, 79, 83, 84] : List UInt8) then (some true) else (some false))))
theorem method_Safe.mono : ∀ a k, LeO (method_Safe.f k a) (method_Safe.f (k + 1) a) := by
 intro a k
 have b := @method_known.mono; unfold method_Safe.f
 exact moE
theorem method_Safe.calls (k : Nat) (j : ByteArray) (r : Bool) (w : World) (h : method_Safe.f k j = some r) :
  Calls Tryz.prog 38 #[.string j] w fun e w' => e = .returned (.bool r) ∧ Below w.heap.size w w' := by
 have HB := Aside0.mk (Below.refl w.heap.size w); have H := h; clear h; unfold method_Safe.f at H; replace H := bd_ H; obtain ⟨n, m, H⟩ := H; revert H; refine iteEF_ (fun a b H => ?g1p) (fun o a b H => ?g1n)
 case' g1p =>
  obtain rfl := si_ H
 case' g1n =>
  revert H; refine iteEF_ (fun c d H => ?g2p) (fun p c d H => ?g2n)
  case' g2p =>
   obtain rfl := si_ H
  case' g2n =>
   revert H; refine iteEF_ (fun g i H => ?g3p) (fun q g i H => ?g3n)
   case' g3p =>
    obtain rfl := si_ H
   case' g3n =>
    obtain rfl := si_ H
 all_goals
  go_enter Tryz.func38, Tryz.ntmps38; go_wp2_with (first | ((with_reducible refine gate_callee (f := 76) rfl ?_); refine gL _ Tryz.func76 _ ((method_known.calls k j _ _ m.out).mono ?_); rintro e l ⟨rfl, hb⟩; refine ⟨_, rfl, ?_⟩; replace HB := bS bE hb; (try clear hb))); go_ret; exact ⟨rE, bE⟩
def safe_Byte.f (b : Int) : Option (Bool) := if b = 9 then (some true) else (if b ≥ 32 then ((strings_IndexByte.f (⟨#[34, 40, 41, 58, 60, 62, 63, 64, 91, 92, 93, 123, 125, 127]⟩ : ByteArray) b).bind fun a => (some (decide (a < 0)))) else (some false))
theorem safe_Byte.calls (d : Int) (r : Bool) (w : World) (h : safe_Byte.f d = some r) :
  Calls Tryz.prog 160 #[.int .u8 d] w fun e w' => e = .returned (.bool r) ∧ Drawn0 w w' := by
 have H := h; clear h; unfold safe_Byte.f at H; revert H; refine iteEF_ (fun a b H => ?g1p) (fun i a b H => ?g1n)
 case' g1p =>
  obtain rfl := si_ H
 case' g1n =>
  revert H; refine iteJJ_ (fun c H => ?g2p) (fun c H => ?g2n)
  case' g2p =>
   replace H := bd_ H; obtain ⟨j, g, H⟩ := H; obtain rfl := si_ H
  case' g2n =>
   obtain rfl := si_ H
 all_goals
  go_enter Tryz.func160, Tryz.ntmps160; go_wp2_with (first | (go_at_call 141; (with_reducible refine (strings_IndexByte.calls (⟨#[34, 40, 41, 58, 60, 62, 63, 64, 91, 92, 93, 123, 125, 127]⟩ : ByteArray) d _ _ g.out).mono ?_); rintro e w' ⟨rfl, ⟨nd, rfl⟩⟩)); go_ret; exact ⟨rS, dE⟩
def safe_word.f (a : Int) : Option (Bool) := if (Go.bits .or .u8 a 32) ≥ 97 then (if (Go.bits .or .u8 a 32) ≤ 122 then (some true) else (if a ≥ 48 then (if a ≤ 57 then (some true) else ((strings_IndexByte.f (⟨#[32, 42, 44, 45, 46, 59, 61]⟩ : ByteArray) a).bind fun b => (some (decide (b ≥ 0))))) else ((strings_IndexByte.f (⟨#[32, 42, 44, 45, 46, 59, 61]⟩ : ByteArray) a).bind fun c => (some (decide (c ≥ 0)))))) else (if a ≥ 48 then (if a ≤ 57 then (some true) else ((strings_IndexByte.f (⟨#[32, 42, 44, 45, 46, 59, 61]⟩ : ByteArray) a).bind fun d => (some (decide (d ≥ 0))))) else ((strings_IndexByte.f (⟨#[32, 42, 44, 45, 46, 59, 61]⟩ : ByteArray) a).bind fun e => (some (decide (e ≥ 0)))))
theorem safe_word.calls (c : Int) (r : Bool) (w : World) (h : safe_word.f c = some r) :
  Calls Tryz.prog 161 #[.int .u8 c] w fun e w' => e = .returned (.bool r) ∧ Drawn0 w w' := by
 have H := h; clear h; unfold safe_word.f at H; revert H; refine iteJJ_ (fun d H => ?g1p) (fun d H => ?g1n)
 case' g1p =>
  revert H; refine iteDD_ (fun a H => ?g2p) (fun a H => ?g2n)
  case' g2p =>
   obtain rfl := si_ H
  case' g2n =>
   revert H; refine iteJJ_ (fun b H => ?g3p) (fun b H => ?g3n)
   case' g3p =>
    revert H; refine iteDD_ (fun g H => ?g4p) (fun g H => ?g4n)
    case' g4p =>
     obtain rfl := si_ H
    case' g4n =>
     replace H := bd_ H; obtain ⟨m, j, H⟩ := H; obtain rfl := si_ H
   case' g3n =>
    replace H := bd_ H; obtain ⟨n, i, H⟩ := H; obtain rfl := si_ H
 case' g1n =>
  revert H; refine iteJJ_ (fun a H => ?g5p) (fun a H => ?g5n)
  case' g5p =>
   revert H; refine iteDD_ (fun b H => ?g6p) (fun b H => ?g6n)
   case' g6p =>
    obtain rfl := si_ H
   case' g6n =>
    replace H := bd_ H; obtain ⟨o, i, H⟩ := H; obtain rfl := si_ H
  case' g5n =>
   replace H := bd_ H; obtain ⟨p, l, H⟩ := H; obtain rfl := si_ H
 all_goals
  go_enter Tryz.func161, Tryz.ntmps161; go_wp2_with (first | (go_at_call 141; (with_reducible refine (strings_IndexByte.calls (⟨#[32, 42, 44, 45, 46, 59, 61]⟩ : ByteArray) c _ _ j.out).mono ?_); rintro e w' ⟨rfl, ⟨nd, rfl⟩⟩) | (go_at_call 141; (with_reducible refine (strings_IndexByte.calls (⟨#[32, 42, 44, 45, 46, 59, 61]⟩ : ByteArray) c _ _ i.out).mono ?_); rintro e w' ⟨rfl, ⟨nd, rfl⟩⟩) | (go_at_call 141; (with_reducible refine (strings_IndexByte.calls (⟨#[32, 42, 44, 45, 46, 59, 61]⟩ : ByteArray) c _ _ l.out).mono ?_); rintro e w' ⟨rfl, ⟨nd, rfl⟩⟩)); go_ret; exact ⟨rS, dE⟩
end Go.Proofs.YtfmajangcbgooaaGreatDoor.Pr
