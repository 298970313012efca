import Derived.Test.YtfmajangcbgooaaGreatDoorPr0
import Derived.Test.YtfmajangcbgooaaGreatDoorK0
import Derived.Test.YtfmajangcbgooaaGreatDoorPr4
import Derived.Test.YtfmajangcbgooaaGreatDoorG0
import Derived.Test.YtfmajangcbgooaaGreatDoorG1
import Derived.Test.YtfmajangcbgooaaGreatDoorPr5
import Derived.Test.YtfmajangcbgooaaGreatDoorG5
namespace Go.Proofs.YtfmajangcbgooaaGreatDoor.Pr
open Go.RowKit Go.Proofs.YtfmajangcbgooaaGreatDoorW.PrintWords Go.Proofs.YtfmajangcbgooaaGreatDoorW.PrintLast Go.Proofs.YtfmajangcbgooaaGreatDoorW.PrintMore
attribute [local go_sem] max2_int min2_int max_two min_two max_three min_three max_four min_four
set_option linter.unusedVariables false
set_option linter.unusedSimpArgs false
theorem eqA43 (d : Nat) (w : World) (a b : ByteArray) (c e : ByteArray) (g i : Bool) :
  (Op.equalIn (d + 2) 43 (.agg #[.string a, .string c, .bool g]) (.agg #[.string b, .string e, .bool i])).run Tryz.prog w = .ok (a.toList == b.toList && (c.toList == e.toList && (g == i))) w := by
 refine eqA_of Tryz.underlying43 (by kernel_rfl) ?_
 refine eqf_cons (by rfl) (by go_simp; rfl) (by go_simp; rfl) (by go_simp) ?_
 refine eqf_cons (by rfl) (by go_simp; rfl) (by go_simp; rfl) (by go_simp) ?_
 exact eqf_last (by rfl) (by go_simp; rfl) (by go_simp; rfl) (by go_simp)
set_option maxHeartbeats 64000000
set_option maxRecDepth 100000
def header_Check.l0 : Nat → List (S28) → Int → Int → Option (Int)
 | 0, _, _, _ => none
 | k + 1, c, d, a => if a < d then (if 0 ≤ a then (if a < (c.length : Int) then ((header_isHeader.f k ((rd_T28 c a).f0) ((rd_T28 c a).f1)).bind fun b => (if b = true then (header_Check.l0 k c d (wrap64 (a + 1))) else (some 6))) else (none)) else (none)) else (some 0)
def header_Check.f (k : Nat) (l0 : List (S28)) : Option (Int) := if (l0.length : Int) > 32 then (some 4) else (header_Check.l0 k l0 (l0.length : Int) 0)
theorem header_Check.mono_l : ∀ k, (∀ a b c, LeO (header_Check.l0 k a b c) (header_Check.l0 (k + 1) a b c))
 | 0 => fun _ _ _ r h => by simp [header_Check.l0] at h
 | k + 1 => by
  have ih0 := header_Check.mono_l k
  ·intros
   have d := @header_isHeader.mono; unfold header_Check.l0
   exact moE
theorem header_Check.mono : ∀ a k, LeO (header_Check.f k a) (header_Check.f (k + 1) a) := by
 intro a k
 have ih0 := header_Check.mono_l k
 have b := @header_isHeader.mono; unfold header_Check.f
 exact moE
theorem header_Check.calls (k : Nat) (O : Option Addr) (U : Nat) (l0 : List (S28)) (r : Int) (w : World) (s : Kd.C k28 w O l0.length l0) (u : l0.length ≤ U) (h : header_Check.f k l0 = some r) :
  Calls Tryz.prog 101 #[.slice O l0.length U] w fun e w' => e = .returned (.int .i64 r) ∧ Below w.heap.size w w' := by
 have W := Tryz.underlying28; have v := Aside0.mk s; have a1 := Aside0.mk u; clear s u; have HB := Aside0.mk (Below.refl w.heap.size w); have H := h; clear h; unfold header_Check.f at H; revert H; refine itePP_ (fun c2 H => ?g1p) (fun c2 H => ?g1n)
 case' g1p =>
  have i : decide (32 < (l0.length : Int)) = true := decide_eq_true c2; have j : decide (32 < l0.length) = true := decide_eq_true (by omega); clear c2; obtain rfl := si_ H; have x := trivial
 case' g1n =>
  have i : decide (32 < (l0.length : Int)) = false := decide_eq_false c2; have j : decide (32 < l0.length) = false := decide_eq_false (by omega); clear c2; have H' := Aside0.mk H; clear H; have y := trivial
 all_goals
  go_enter Tryz.func101, Tryz.ntmps101; go_wp2
  first
  | clear x
    go_ret; exact ⟨rE, bE⟩
  | clear y
    go_loopg [10] k (fun kq z w' => ∃ (a : Int), z = .int .i64 a ∧ Aside0 (header_Check.l0 kq l0 (l0.length : Int) a = some r) ∧ Aside0 (kq ≤ k) ∧ Aside0 (Below w.heap.size w w'))
    case atStart => exact ⟨(0), rS, H', ⟨Nat.le_refl _⟩, ⟨bE⟩⟩
    case round =>
     clear H'; (try clear c2); (try clear i); (try clear j); obtain ⟨a, rfl, HA, A, HB⟩ := hrel
     cases gk with
     | zero => exact absurd HA.out (by simp [header_Check.l0])
     | succ k1 =>
      have H := HA.out; clear HA
      simp only [header_Check.l0] at H
      revert H; refine iteDD_ (fun B H => ?g3p) (fun B H => ?g3n)
      case' g3p =>
       revert H; refine iteND_ fun X => iteND_ fun Y H => ?_; replace H := bd_ H; obtain ⟨t1, A7, H⟩ := H; revert H; refine iteB_ (fun c8 H => ?g4p) (fun c8 H => ?g4n)
       case' g4p =>
        subst c8; have H' := Aside0.mk H; clear H; have m : 0 ≤ (a : Int) := of_decide_eq_true mE; have n : a < (l0.length : Int) := of_decide_eq_true mE; obtain ⟨K, L, b, c⟩ := at_T28 v.out a m n
        cases L
        replace b := (HB.out.cell (World.block_lt_of_cell? w _ b)).trans b; replace c := (HB.out.cell (World.block_lt_of_cell? w _ c)).trans c; replace m := eq_true m; replace n := eq_true n; have D := trivial
       case' g4n =>
        subst c8; obtain rfl := si_ H; have m : 0 ≤ (a : Int) := of_decide_eq_true mE; have n : a < (l0.length : Int) := of_decide_eq_true mE; obtain ⟨K, L, b, c⟩ := at_T28 v.out a m n
        cases L
        replace b := (HB.out.cell (World.block_lt_of_cell? w _ b)).trans b; replace c := (HB.out.cell (World.block_lt_of_cell? w _ c)).trans c; replace m := eq_true m; replace n := eq_true n; have l := trivial
      case' g3n =>
       obtain rfl := si_ H; have l := trivial
      all_goals
       go_wp2_with (first | ((with_reducible refine gate_dst (N := 4) rfl ?_); refine bxE (N := 4) (cs := #[.string ⟨#[]⟩, .string ⟨#[]⟩]) (t := 28) fun p hg Z hbox hb => ?_; obtain ⟨HB', d, q⟩ := bx_ bE hg hbox hb; have M := q; clear HB hb hbox hg; have HB := HB'; clear HB'; obtain ⟨I, J, E, G⟩ := bk2_ d) | ((with_reducible refine gate_callee (f := 148) rfl ?_); refine gL _ Tryz.func148 _ ((header_isHeader.calls k1 ((rd_T28 l0 a).f0) ((rd_T28 l0 a).f1) _ _ A7.out).mono ?_); rintro e a0 ⟨rfl, hb⟩; refine ⟨_, rfl, ?_⟩; have n0_ := Aside0.mk (blk_below (g := p) (o := .cells #[.string ((rd_T28 l0 a).f0), .string ((rd_T28 l0 a).f1)] 28 (0, 0)) (kT) hb); have n1_ := bS bE hb; clear d; clear HB; have d := n0_; have HB := n1_; clear n0_ n1_; (try clear hb); (try clear hb2); (try clear hk); (try clear hi)))
       first
       | clear D
         go_roundg k1
         case measure => have := A.out; omega
         case rel => exact ⟨(wrap64 (a + 1)), rS, H', ⟨by have := A.out; omega⟩, ⟨bE⟩⟩
       | clear l
         go_ret; exact ⟨rE, bE⟩
def ask_fields.j0 : Nat → Bool → ByteArray → ByteArray → ByteArray → Int → Bool → List (S28) → Int → Int → Int → Int → Option (Int)
 | 0, _, _, _, _, _, _, _, _, _, _, _ => none
 | k + 1, n, d, e, g, i, j, l, m, a, b, c => if n = true then (some 8) else (if a > 600 then (some 9) else (if b < 0 then (some 2) else (if c < 0 then (some 2) else (some 0))))
def ask_fields.f (k : Nat) (b e g : ByteArray) (c : Int) (i : Bool) (d : List (S28)) (a j l m : Int) : Option (Int) := (method_Check.f k b).bind fun n => (if n = 0 then ((ask_isMode.f c).bind fun p => (if p = true then ((header_Check.f k d).bind fun o => (if o = 0 then (if a < 1 then (ask_fields.j0 k true b e g c i d a j l m) else (ask_fields.j0 k (decide (a > 6)) b e g c i d a j l m)) else (some o))) else (some 7))) else (some n))
theorem ask_fields.mono_l : ∀ k, (∀ b c d e g i j l m n a, LeO (ask_fields.j0 k b c d e g i j l m n a) (ask_fields.j0 (k + 1) b c d e g i j l m n a))
 | 0 => fun _ _ _ _ _ _ _ _ _ _ _ r h => by simp [ask_fields.j0] at h
 | k + 1 => by
  have ih0 := ask_fields.mono_l k
  ·intros
   have o := @header_Check.mono; have p := @method_Check.mono; unfold ask_fields.j0
   exact moE
theorem ask_fields.mono : ∀ a b c d e g i j l m k, LeO (ask_fields.f k a b c d e g i j l m) (ask_fields.f (k + 1) a b c d e g i j l m) := by
 intro a b c d e g i j l m k
 have ih0 := ask_fields.mono_l k
 have n := @header_Check.mono; have o := @method_Check.mono; unfold ask_fields.f
 exact moE
theorem ask_fields.calls (k : Nat) (c i j : ByteArray) (d : Int) (l : Bool) (p : Option Addr) (q : Nat) (b : List (S28)) (g m n o r : Int) (w : World) (al : Kd.C k28 w p b.length b) (am : b.length ≤ q) (h : ask_fields.f k c i j d l b g m n o = some r) :
  Calls Tryz.prog 47 #[.agg #[.string c, .string i, .string j, .int .i64 d, .bool l, .slice p b.length q, .int .i64 g, .int .u64 m, .int .i64 n, .int .i64 o]] w fun e w' => e = .returned (.int .i64 r) ∧ Below w.heap.size w w' := by
 have cj := Tryz.underlying26; have an := Aside0.mk al; have ao := Aside0.mk am; clear al am; have HB := Aside0.mk (Below.refl w.heap.size w); have H := h; clear h; unfold ask_fields.f at H; replace H := bd_ H; obtain ⟨t1, A2, H⟩ := H; revert H; refine iteEF_ (fun aO aP H => ?g1p) (fun c3 aO aP H => ?g1n)
 case' g1p =>
  replace H := bd_ H; obtain ⟨t2, A4, H⟩ := H; revert H; refine iteB_ (fun c5 H => ?g2p) (fun c5 H => ?g2n)
  case' g2p =>
   subst c5; replace H := bd_ H; obtain ⟨t3, A6, H⟩ := H; revert H; refine iteEF_ (fun aQ aR H => ?g3p) (fun c7 aQ aR H => ?g3n)
   case' g3p =>
    have aS := Aside0.mk H; clear H; have bi := trivial
   case' g3n =>
    obtain rfl := si_ H; have ap := trivial
  case' g2n =>
   subst c5; obtain rfl := si_ H; have ap := trivial
 case' g1n =>
  obtain rfl := si_ H; have ap := trivial
 all_goals
  go_enter Tryz.func47, Tryz.ntmps47
  first
  | clear bi
    go_upto_region 9 with (first | ((with_reducible refine gate_dst (N := 1) rfl ?_); refine bxE (N := 1) (cs := #[.string c, .string i, .string j, .int .i64 d, .bool l, .slice p b.length q, .int .i64 g, .int .u64 m, .int .i64 n, .int .i64 o]) (t := 26) fun aq hg bj hbox hb => ?_; obtain ⟨HB', a, Z⟩ := bx_ bE hg hbox hb; have aT := Z; clear HB hb hbox hg; have HB := HB'; clear HB'; obtain ⟨a1, a2, a3, a4, a5, a6, a7, a8, a9, aa, s, u, v, x, y, z, A, B, D, E⟩ := bk10_ a) | ((with_reducible refine gate_callee (f := 99) rfl ?_); refine gL _ Tryz.func99 _ ((method_Check.calls k c t1 _ A2.out).mono ?_); rintro e bk ⟨rfl, hb⟩; refine ⟨_, rfl, ?_⟩; replace a := kM a hb; replace HB := bS bE hb; (try clear hb); obtain ⟨ab, ac, ad, ae, af, ag, ah, ai, aj, ak, G, I, J, K, L, M, O, U, W, X⟩ := bk10_ a) | ((with_reducible refine gate_callee (f := 100) rfl ?_); refine gL _ Tryz.func100 _ ((ask_isMode.calls d true _ A4.out).mono ?_); rintro e w' ⟨rfl, ⟨nd, rfl⟩⟩; refine ⟨_, rfl, ?_⟩) | ((with_reducible refine gate_callee (f := 101) rfl ?_); refine gL _ Tryz.func101 _ ((header_Check.calls k _ _ b t3 _ ?side1 ?side2 A6.out).mono ?_); (case side1 => repeat (first | exact (Kd.C_below an.out bE) | (with_reducible refine Kd.C_alloc ?_ _) | (with_reducible refine Kd.C_drewN ?_ _) | (with_reducible refine Kd.C_drew ?_))); (case side2 => exact ao.out); rintro e bl ⟨rfl, hb⟩; refine ⟨_, rfl, ?_⟩; replace a := kM a hb; replace HB := bS bE hb; (try clear hb)))
    (try simp only [Act.put, List.setIfInBounds_toArray, List.set_cons_zero, List.set_cons_succ])
    go_cut [21] (fun bm wc => ∃ (kq : Nat) (a0 : Bool), bm = .bool a0 ∧ Aside0 (ask_fields.j0 kq a0 c i j d l b g m n o = some r) ∧ Aside0 (kq ≤ k) ∧ Aside0 (wc.heap[aq]? = some (.cells #[.string c, .string i, .string j, .int .i64 d, .bool l, (.slice p b.length q), .int .i64 g, .int .u64 m, .int .i64 n, .int .i64 o] 26 (0, 0))) ∧ Aside0 (Below w.heap.size w wc))
    case first =>
     have H := aS.out; clear aS; revert H; refine iteDD_ (fun Y H => ?g5p) (fun Y H => ?g5n)
     case' g5p =>
      (first | rw [Y] | (simp only [i64_w, i32_w]; rw [Y]) | skip); have H' := Aside0.mk H; clear H; obtain ⟨aU, aV, aW, aX, aY, aZ, a_, b0, b1, b2, ar, au, av, aw, ax, ay, az, aA, aB, aC⟩ := bk10_ a; have bn := trivial
     case' g5n =>
      (first | rw [Y] | (simp only [i64_w, i32_w]; rw [Y]) | skip); have H' := Aside0.mk H; clear H; obtain ⟨aU, aV, aW, aX, aY, aZ, a_, b0, b1, b2, ar, au, av, aw, ax, ay, az, aA, aB, aC⟩ := bk10_ a; have bo := trivial
     all_goals
      go_wp2; go_meet
      first
      | clear bn
        case rel => exact ⟨_, (true), rS, H', ⟨oE⟩, ⟨kC a⟩, ⟨bE⟩⟩
      | clear bo
        case rel => exact ⟨_, (decide (g > 6)), rS, H', ⟨oE⟩, ⟨kC a⟩, ⟨bE⟩⟩
    case rest =>
     clear aS; (try clear c3); (try clear aO); (try clear aP); (try clear c5); (try clear c7); (try clear aQ); (try clear aR); (try clear a1); (try clear a2); (try clear a3); (try clear a4); (try clear a5); (try clear a6); (try clear a7); (try clear a8); (try clear a9); (try clear aa); (try clear ab); (try clear ac); (try clear ad); (try clear ae); (try clear af); (try clear ag); (try clear ah); (try clear ai); (try clear aj); (try clear ak); (try clear s); (try clear u); (try clear v); (try clear x); (try clear y); (try clear z); (try clear A); (try clear B); (try clear D); (try clear E); (try clear G); (try clear I); (try clear J); (try clear K); (try clear L); (try clear M); (try clear O); (try clear U); (try clear W); (try clear X); obtain ⟨kq, a0, rfl, HA, HJ7, a, HB⟩ := hcut
     cases kq with
     | zero => exact absurd HA.out (by simp [ask_fields.j0])
     | succ kj7 =>
      have H := HA.out; clear HA
      simp only [ask_fields.j0] at H
      revert H; refine iteB_ (fun b3 H => ?g7p) (fun b3 H => ?g7n)
      case' g7p =>
       subst b3; obtain rfl := si_ H
      case' g7n =>
       subst b3; revert H; refine iteGG_ (fun b4 H => ?g8p) (fun b4 H => ?g8n)
       case' g8p =>
        obtain rfl := si_ H; obtain ⟨bQ, bR, bT, bU, bV, bX, bY, bZ, b_, c0, bp, bq, br, bs, bu, bv, bw, bx, bB, bC⟩ := bk10_ a
       case' g8n =>
        revert H; refine iteDD_ (fun b5 H => ?g9p) (fun b5 H => ?g9n)
        case' g9p =>
         obtain rfl := si_ H; obtain ⟨c1, ca, cb, cc, cd, ce, cf, cg, ch, ci, bF, bG, bH, bI, bJ, bK, bL, bM, bO, bP⟩ := bk10_ a
        case' g9n =>
         revert H; refine iteDD_ (fun b6 H => ?g10p) (fun b6 H => ?g10n)
         case' g10p =>
          obtain rfl := si_ H; obtain ⟨b7, b8, b9, ba, bb, bc, be, bf, bg, bh, aD, aE, aF, aG, aH, aI, aJ, aK, aL, aN⟩ := bk10_ a
         case' g10n =>
          obtain rfl := si_ H; obtain ⟨b7, b8, b9, ba, bb, bc, be, bf, bg, bh, aD, aE, aF, aG, aH, aI, aJ, aK, aL, aN⟩ := bk10_ a
      all_goals
       go_wp2; go_ret; exact ⟨rE, bE⟩
  | clear ap
    go_wp2_with (first | ((with_reducible refine gate_dst (N := 1) rfl ?_); refine bxE (N := 1) (cs := #[.string c, .string i, .string j, .int .i64 d, .bool l, .slice p b.length q, .int .i64 g, .int .u64 m, .int .i64 n, .int .i64 o]) (t := 26) fun aq hg bj hbox hb => ?_; obtain ⟨HB', a, Z⟩ := bx_ bE hg hbox hb; have aT := Z; clear HB hb hbox hg; have HB := HB'; clear HB'; obtain ⟨a1, a2, a3, a4, a5, a6, a7, a8, a9, aa, s, u, v, x, y, z, A, B, D, E⟩ := bk10_ a) | ((with_reducible refine gate_callee (f := 99) rfl ?_); refine gL _ Tryz.func99 _ ((method_Check.calls k c _ _ A2.out).mono ?_); rintro e bk ⟨rfl, hb⟩; refine ⟨_, rfl, ?_⟩; replace a := kM a hb; replace HB := bS bE hb; (try clear hb); obtain ⟨ab, ac, ad, ae, af, ag, ah, ai, aj, ak, G, I, J, K, L, M, O, U, W, X⟩ := bk10_ a) | ((with_reducible refine gate_callee (f := 100) rfl ?_); refine gL _ Tryz.func100 _ ((ask_isMode.calls d _ _ A4.out).mono ?_); rintro e w' ⟨rfl, ⟨nd, rfl⟩⟩; refine ⟨_, rfl, ?_⟩) | ((with_reducible refine gate_callee (f := 101) rfl ?_); refine gL _ Tryz.func101 _ ((header_Check.calls k _ _ b t3 _ ?side1 ?side2 A6.out).mono ?_); (case side1 => repeat (first | exact (Kd.C_below an.out bE) | (with_reducible refine Kd.C_alloc ?_ _) | (with_reducible refine Kd.C_drewN ?_ _) | (with_reducible refine Kd.C_drew ?_))); (case side2 => exact ao.out); rintro e bl ⟨rfl, hb⟩; refine ⟨_, rfl, ?_⟩; replace a := kM a hb; replace HB := bS bE hb; (try clear hb))); go_ret; exact ⟨rE, bE⟩
def method_known.l0 : Nat → ByteArray → Int → Option (ByteArray)
 | 0, _, _ => none
 | k + 1, c, a => if a < 6 then (if 0 ≤ a then ((octet_Fold.f c (rdOf ByteArray.empty ([(⟨#[68, 69, 76, 69, 84, 69]⟩ : ByteArray), (⟨#[71, 69, 84]⟩ : ByteArray), (⟨#[72, 69, 65, 68]⟩ : ByteArray), (⟨#[79, 80, 84, 73, 79, 78, 83]⟩ : ByteArray), (⟨#[80, 79, 83, 84]⟩ : ByteArray), (⟨#[80, 85, 84]⟩ : ByteArray)] : List ByteArray) a)).bind fun b => (if b = true then (some (rdOf ByteArray.empty ([(⟨#[68, 69, 76, 69, 84, 69]⟩ : ByteArray), (⟨#[71, 69, 84]⟩ : ByteArray), (⟨#[72, 69, 65, 68]⟩ : ByteArray), (⟨#[79, 80, 84, 73, 79, 78, 83]⟩ : ByteArray), (⟨#[80, 79, 83, 84]⟩ : ByteArray), (⟨#[80, 85, 84]⟩ : ByteArray)] : List ByteArray) a)) else (method_known.l0 k c (wrap64 (a + 1))))) else (none)) else (some (⟨#[]⟩ : ByteArray))
def method_known.f (k : Nat) (a : ByteArray) : Option (ByteArray) := method_known.l0 k a 0
theorem method_known.mono_l : ∀ k, (∀ a b, LeO (method_known.l0 k a b) (method_known.l0 (k + 1) a b))
 | 0 => fun _ _ r h => by simp [method_known.l0] at h
 | k + 1 => by
  have ih0 := method_known.mono_l k
  ·intros
   unfold method_known.l0
   exact moE
theorem method_known.mono : ∀ a k, LeO (method_known.f k a) (method_known.f (k + 1) a) := by
 intro a k
 have ih0 := method_known.mono_l k
 unfold method_known.f
 exact moE
theorem method_known.calls (k : Nat) (c r : ByteArray) (w : World) (h : method_known.f k c = some r) :
  Calls Tryz.prog 76 #[.string c] w fun e w' => e = .returned (.string r) ∧ Below w.heap.size w w' := by
 have HB := Aside0.mk (Below.refl w.heap.size w); have H : (method_known.l0 k c 0) = some r := h; clear h; have H' := Aside0.mk H; clear H; go_enter Tryz.func76, Tryz.ntmps76; go_wp2
 go_loopg [6] k (fun kq d w' => ∃ (a : Int), d = .int .i64 a ∧ Aside0 (method_known.l0 kq c a = some r) ∧ Aside0 (kq ≤ k) ∧ Aside0 (Below w.heap.size w w'))
 case atStart => exact ⟨(0), rS, H', ⟨Nat.le_refl _⟩, ⟨bE⟩⟩
 case round =>
  clear H'; obtain ⟨a, rfl, HA, g, HB⟩ := hrel
  cases gk with
  | zero => exact absurd HA.out (by simp [method_known.l0])
  | succ k1 =>
   have H := HA.out; clear HA
   simp only [method_known.l0] at H
   revert H; refine iteDD_ (fun i H => ?g1p) (fun i H => ?g1n)
   case' g1p =>
    revert H; refine iteND_ fun m H => ?_; replace H := bd_ H; obtain ⟨q, n, H⟩ := H; revert H; refine iteB_ (fun c4 H => ?g2p) (fun c4 H => ?g2n)
    case' g2p =>
     subst c4; obtain rfl := si_ H; have l := XA.arr_at (P := Tryz.prog) (t := 124) (e := 9) 6 ([(⟨#[68, 69, 76, 69, 84, 69]⟩ : ByteArray), (⟨#[71, 69, 84]⟩ : ByteArray), (⟨#[72, 69, 65, 68]⟩ : ByteArray), (⟨#[79, 80, 84, 73, 79, 78, 83]⟩ : ByteArray), (⟨#[80, 79, 83, 84]⟩ : ByteArray), (⟨#[80, 85, 84]⟩ : ByteArray)] : List ByteArray) Tryz.underlying124 Tryz.underlying9 (by kernel_rfl) rfl #[Value.string ⟨#[68, 69, 76, 69, 84, 69]⟩, Value.string ⟨#[71, 69, 84]⟩, Value.string ⟨#[72, 69, 65, 68]⟩, Value.string ⟨#[79, 80, 84, 73, 79, 78, 83]⟩, Value.string ⟨#[80, 79, 83, 84]⟩, Value.string ⟨#[80, 85, 84]⟩] rfl (a : Int) (of_decide_eq_true mE) (of_decide_eq_true mE); have b := trivial
    case' g2n =>
     subst c4; have H' := Aside0.mk H; clear H; have l := XA.arr_at (P := Tryz.prog) (t := 124) (e := 9) 6 ([(⟨#[68, 69, 76, 69, 84, 69]⟩ : ByteArray), (⟨#[71, 69, 84]⟩ : ByteArray), (⟨#[72, 69, 65, 68]⟩ : ByteArray), (⟨#[79, 80, 84, 73, 79, 78, 83]⟩ : ByteArray), (⟨#[80, 79, 83, 84]⟩ : ByteArray), (⟨#[80, 85, 84]⟩ : ByteArray)] : List ByteArray) Tryz.underlying124 Tryz.underlying9 (by kernel_rfl) rfl #[Value.string ⟨#[68, 69, 76, 69, 84, 69]⟩, Value.string ⟨#[71, 69, 84]⟩, Value.string ⟨#[72, 69, 65, 68]⟩, Value.string ⟨#[79, 80, 84, 73, 79, 78, 83]⟩, Value.string ⟨#[80, 79, 83, 84]⟩, Value.string ⟨#[80, 85, 84]⟩] rfl (a : Int) (of_decide_eq_true mE) (of_decide_eq_true mE); have j := trivial
   case' g1n =>
    obtain rfl := si_ H; have b := trivial
   all_goals
    go_wp2_with (first | ((with_reducible refine gate_callee (f := 70) rfl ?_); refine gL _ Tryz.func70 _ ((octet_Fold.calls c (rdOf ByteArray.empty ([(⟨#[68, 69, 76, 69, 84, 69]⟩ : ByteArray), (⟨#[71, 69, 84]⟩ : ByteArray), (⟨#[72, 69, 65, 68]⟩ : ByteArray), (⟨#[79, 80, 84, 73, 79, 78, 83]⟩ : ByteArray), (⟨#[80, 79, 83, 84]⟩ : ByteArray), (⟨#[80, 85, 84]⟩ : ByteArray)] : List ByteArray) a) true _ n.out).mono ?_); rintro e o ⟨rfl, hb⟩; refine ⟨_, rfl, ?_⟩; replace HB := bS bE hb; (try clear hb)) | ((with_reducible refine gate_callee (f := 70) rfl ?_); refine gL _ Tryz.func70 _ ((octet_Fold.calls c (rdOf ByteArray.empty ([(⟨#[68, 69, 76, 69, 84, 69]⟩ : ByteArray), (⟨#[71, 69, 84]⟩ : ByteArray), (⟨#[72, 69, 65, 68]⟩ : ByteArray), (⟨#[79, 80, 84, 73, 79, 78, 83]⟩ : ByteArray), (⟨#[80, 79, 83, 84]⟩ : ByteArray), (⟨#[80, 85, 84]⟩ : ByteArray)] : List ByteArray) a) false _ n.out).mono ?_); rintro e p ⟨rfl, hb⟩; refine ⟨_, rfl, ?_⟩; replace HB := bS bE hb; (try clear hb)))
    first
    | clear b
      go_ret; exact ⟨rE, bE⟩
    | clear j
      go_roundg k1
      case measure => have := g.out; omega
      case rel => exact ⟨(wrap64 (a + 1)), rS, H', ⟨by have := g.out; omega⟩, ⟨bE⟩⟩
def method_Safe.f (k : Nat) (b : ByteArray) : Option (Bool) := (method_known.f k b).bind fun a => (if a.toList = ([71, 69, 84] : List UInt8) then (some true) else (if a.toList = ([72, 69, 65, 68] : List UInt8) then (some true) else (if a.toList = ([80, 79, 83, 84] : List UInt8) then (some true) else (some false))))
theorem method_Safe.mono : ∀ a k, LeO (method_Safe.f k a) (method_Safe.f (k + 1) a) := by
 intro a k
 have b := @method_known.mono; unfold method_Safe.f
 exact moE
theorem method_Safe.calls (k : Nat) (j : ByteArray) (r : Bool) (w : World) (h : method_Safe.f k j = some r) :
  Calls Tryz.prog 38 #[.string j] w fun e w' => e = .returned (.bool r) ∧ Below w.heap.size w w' := by
 have HB := Aside0.mk (Below.refl w.heap.size w); have H := h; clear h; unfold method_Safe.f at H; replace H := bd_ H; obtain ⟨n, m, H⟩ := H; revert H; refine iteEF_ (fun a b H => ?g1p) (fun c2 a b H => ?g1n)
 case' g1p =>
  obtain rfl := si_ H
 case' g1n =>
  revert H; refine iteEF_ (fun c d H => ?g2p) (fun c3 c d H => ?g2n)
  case' g2p =>
   obtain rfl := si_ H
  case' g2n =>
   revert H; refine iteEF_ (fun g i H => ?g3p) (fun c4 g i H => ?g3n)
   case' g3p =>
    obtain rfl := si_ H
   case' g3n =>
    obtain rfl := si_ H
 all_goals
  go_enter Tryz.func38, Tryz.ntmps38; go_wp2_with (first | ((with_reducible refine gate_callee (f := 76) rfl ?_); refine gL _ Tryz.func76 _ ((method_known.calls k j _ _ m.out).mono ?_); rintro e l ⟨rfl, hb⟩; refine ⟨_, rfl, ?_⟩; replace HB := bS bE hb; (try clear hb))); go_ret; exact ⟨rE, bE⟩
def safe_Byte.f (b : Int) : Option (Bool) := if b = 9 then (some true) else (if b ≥ 32 then ((strings_IndexByte.f (⟨#[34, 40, 41, 58, 60, 62, 63, 64, 91, 92, 93, 123, 125, 127]⟩ : ByteArray) b).bind fun a => (some (decide (a < 0)))) else (some false))
theorem safe_Byte.calls (d : Int) (r : Bool) (w : World) (h : safe_Byte.f d = some r) :
  Calls Tryz.prog 160 #[.int .u8 d] w fun e w' => e = .returned (.bool r) ∧ Drawn0 w w' := by
 have H := h; clear h; unfold safe_Byte.f at H; revert H; refine iteEF_ (fun a b H => ?g1p) (fun i a b H => ?g1n)
 case' g1p =>
  obtain rfl := si_ H
 case' g1n =>
  revert H; refine iteJJ_ (fun c H => ?g2p) (fun c H => ?g2n)
  case' g2p =>
   replace H := bd_ H; obtain ⟨j, g, H⟩ := H; obtain rfl := si_ H
  case' g2n =>
   obtain rfl := si_ H
 all_goals
  go_enter Tryz.func160, Tryz.ntmps160; go_wp2_with (first | (go_at_call 141; (with_reducible refine (strings_IndexByte.calls (⟨#[34, 40, 41, 58, 60, 62, 63, 64, 91, 92, 93, 123, 125, 127]⟩ : ByteArray) d _ _ g.out).mono ?_); rintro e w' ⟨rfl, ⟨nd, rfl⟩⟩)); go_ret; exact ⟨rS, dE⟩
def safe_word.f (a : Int) : Option (Bool) := if (Go.bits .or .u8 a 32) ≥ 97 then (if (Go.bits .or .u8 a 32) ≤ 122 then (some true) else (if a ≥ 48 then (if a ≤ 57 then (some true) else ((strings_IndexByte.f (⟨#[32, 42, 44, 45, 46, 59, 61]⟩ : ByteArray) a).bind fun b => (some (decide (b ≥ 0))))) else ((strings_IndexByte.f (⟨#[32, 42, 44, 45, 46, 59, 61]⟩ : ByteArray) a).bind fun c => (some (decide (c ≥ 0)))))) else (if a ≥ 48 then (if a ≤ 57 then (some true) else ((strings_IndexByte.f (⟨#[32, 42, 44, 45, 46, 59, 61]⟩ : ByteArray) a).bind fun d => (some (decide (d ≥ 0))))) else ((strings_IndexByte.f (⟨#[32, 42, 44, 45, 46, 59, 61]⟩ : ByteArray) a).bind fun e => (some (decide (e ≥ 0)))))
theorem safe_word.calls (c : Int) (r : Bool) (w : World) (h : safe_word.f c = some r) :
  Calls Tryz.prog 161 #[.int .u8 c] w fun e w' => e = .returned (.bool r) ∧ Drawn0 w w' := by
 have H := h; clear h; unfold safe_word.f at H; revert H; refine iteJJ_ (fun d H => ?g1p) (fun d H => ?g1n)
 case' g1p =>
  revert H; refine iteDD_ (fun a H => ?g2p) (fun a H => ?g2n)
  case' g2p =>
   obtain rfl := si_ H
  case' g2n =>
   revert H; refine iteJJ_ (fun b H => ?g3p) (fun b H => ?g3n)
   case' g3p =>
    revert H; refine iteDD_ (fun g H => ?g4p) (fun g H => ?g4n)
    case' g4p =>
     obtain rfl := si_ H
    case' g4n =>
     replace H := bd_ H; obtain ⟨m, j, H⟩ := H; obtain rfl := si_ H
   case' g3n =>
    replace H := bd_ H; obtain ⟨n, i, H⟩ := H; obtain rfl := si_ H
 case' g1n =>
  revert H; refine iteJJ_ (fun a H => ?g5p) (fun a H => ?g5n)
  case' g5p =>
   revert H; refine iteDD_ (fun b H => ?g6p) (fun b H => ?g6n)
   case' g6p =>
    obtain rfl := si_ H
   case' g6n =>
    replace H := bd_ H; obtain ⟨o, i, H⟩ := H; obtain rfl := si_ H
  case' g5n =>
   replace H := bd_ H; obtain ⟨p, l, H⟩ := H; obtain rfl := si_ H
 all_goals
  go_enter Tryz.func161, Tryz.ntmps161; go_wp2_with (first | (go_at_call 141; (with_reducible refine (strings_IndexByte.calls (⟨#[32, 42, 44, 45, 46, 59, 61]⟩ : ByteArray) c _ _ j.out).mono ?_); rintro e w' ⟨rfl, ⟨nd, rfl⟩⟩) | (go_at_call 141; (with_reducible refine (strings_IndexByte.calls (⟨#[32, 42, 44, 45, 46, 59, 61]⟩ : ByteArray) c _ _ i.out).mono ?_); rintro e w' ⟨rfl, ⟨nd, rfl⟩⟩) | (go_at_call 141; (with_reducible refine (strings_IndexByte.calls (⟨#[32, 42, 44, 45, 46, 59, 61]⟩ : ByteArray) c _ _ l.out).mono ?_); rintro e w' ⟨rfl, ⟨nd, rfl⟩⟩)); go_ret; exact ⟨rS, dE⟩
theorem eqA70 (d : Nat) (w : World) (a b : ByteArray) (c e : ByteArray) (g i : Int) :
  (Op.equalIn (d + 2) 70 (.agg #[.string a, .string c, .int .i64 g]) (.agg #[.string b, .string e, .int .i64 i])).run Tryz.prog w = .ok (a.toList == b.toList && (c.toList == e.toList && (g == i))) w := by
 refine eqA_of Tryz.underlying70 (by kernel_rfl) ?_
 refine eqf_cons (by rfl) (by go_simp; rfl) (by go_simp; rfl) (by go_simp) ?_
 refine eqf_cons (by rfl) (by go_simp; rfl) (by go_simp; rfl) (by go_simp) ?_
 exact eqf_last (by rfl) (by go_simp; rfl) (by go_simp; rfl) (by go_simp)
set_option maxHeartbeats 64000000
set_option maxRecDepth 100000
def origin_Key.f (k : Nat) (a b : ByteArray) (c : Int) : Option (ByteArray) := (origin_Check.f k a b c).bind fun e => (if e = true then (if a.size + 3 ≤ 9223372036854775807 then (if (a ++ (⟨#[58, 47, 47]⟩ : ByteArray)).size + b.size ≤ 9223372036854775807 then (if ((a ++ (⟨#[58, 47, 47]⟩ : ByteArray)) ++ b).size + 1 ≤ 9223372036854775807 then ((strconv_Itoa.f c).bind fun d => (if (((a ++ (⟨#[58, 47, 47]⟩ : ByteArray)) ++ b) ++ (⟨#[58]⟩ : ByteArray)).size + d.size ≤ 9223372036854775807 then (some ((((a ++ (⟨#[58, 47, 47]⟩ : ByteArray)) ++ b) ++ (⟨#[58]⟩ : ByteArray)) ++ d)) else (none))) else (none)) else (none)) else (none)) else (some (⟨#[]⟩ : ByteArray)))
theorem origin_Key.mono : ∀ a b c k, LeO (origin_Key.f k a b c) (origin_Key.f (k + 1) a b c) := by
 intro a b c k
 have d := @origin_Check.mono; unfold origin_Key.f
 exact moE
def origin_Key.T3 : Bool × List (List Nat × List Nat) := (true, [([], []), ([0], [0]), ([1], [1]), ([], []), ([3], [3]), ([2, 4], [2, 4]), ([5], [5]), ([], []), ([7], [7]), ([8], [8]), ([6, 9], [6, 9]), ([10, 9, 0, 1, 2, 3, 4, 5, 6, 7, 8, 9, 10], [10])])
def origin_Key.B3 : List Nat := [0, 1, 3, 0, 8, 31, 63, 0, 128, 384, 1023, 2047]
theorem origin_Key.tab3 : rtab .any (opsOf Tryz.f66 3) = origin_Key.T3 := by kernel_rfl
theorem origin_Key.bits3 : waitsOk origin_Key.T3.2 origin_Key.B3 = true := by kernel_rfl
theorem origin_Key.calls (k : Nat) (b c : ByteArray) (d : Int) (r : ByteArray) (w : World) (hM_ : Aside0 (LaidW w)) (h : origin_Key.f k b c d = some r) :
  Calls Tryz.prog 66 #[.agg #[.string b, .string c, .int .i64 d]] w fun e w' => e = .returned (.string r) ∧ Below w.heap.size w w' := by
 have G := Tryz.underlying70; have HB := Aside0.mk (Below.refl w.heap.size w); have H := h; clear h; unfold origin_Key.f at H; replace H := bd_ H; obtain ⟨t1, A1, H⟩ := H; revert H; refine iteB_ (fun c2 H => ?g1p) (fun c2 H => ?g1n)
 case' g1p =>
  subst c2; revert H; refine iteNP_ fun c3 H => ?_; have I := eq_true c3; have J := decide_eq_true c3
  try have L : (9223372036854775807 < b.size + 3) = False := eq_false (Nat.not_lt.2 c3)
  revert H; refine iteNP_ fun c4 H => ?_
  try (have j := c4; simp only [ByteArray.size_append, Int.natCast_add] at j)
  have M := eq_true c4; have O := decide_eq_true c4
  try have U : (9223372036854775807 < (b ++ (⟨#[58, 47, 47]⟩ : ByteArray)).size + c.size) = False := eq_false (Nat.not_lt.2 c4)
  try have W : (9223372036854775807 < b.size + 3 + c.size) = False := eq_false (Nat.not_lt.2 (by have z_ := c4; simp only [ByteArray.size_append] at z_; first | exact z_ | simpa using z_))
  revert H; refine iteNP_ fun c5 H => ?_
  try (have l := c5; simp only [ByteArray.size_append, Int.natCast_add] at l)
  have X := eq_true c5; have Y := decide_eq_true c5
  try have Z : (9223372036854775807 < ((b ++ (⟨#[58, 47, 47]⟩ : ByteArray)) ++ c).size + 1) = False := eq_false (Nat.not_lt.2 c5)
  try have a0 : (9223372036854775807 < b.size + 3 + c.size + 1) = False := eq_false (Nat.not_lt.2 (by have z_ := c5; simp only [ByteArray.size_append] at z_; first | exact z_ | simpa using z_))
  replace H := bd_ H; obtain ⟨A, A6, H⟩ := H; revert H; refine iteNP_ fun c7 H => ?_
  try (have m := c7; simp only [ByteArray.size_append, Int.natCast_add] at m)
  have a1 := eq_true c7; have a2 := decide_eq_true c7
  try have a3 : (9223372036854775807 < (((b ++ (⟨#[58, 47, 47]⟩ : ByteArray)) ++ c) ++ (⟨#[58]⟩ : ByteArray)).size + A.size) = False := eq_false (Nat.not_lt.2 c7)
  try have a4 : (9223372036854775807 < b.size + 3 + c.size + 1 + A.size) = False := eq_false (Nat.not_lt.2 (by have z_ := c7; simp only [ByteArray.size_append] at z_; first | exact z_ | simpa using z_))
  obtain rfl := si_ H; have o := trivial
 case' g1n =>
  subst c2; obtain rfl := si_ H; have p := trivial
 all_goals
  go_enter Tryz.func66, Tryz.ntmps66
  try go_wp2_with (first | ((with_reducible refine gate_dst (N := 1) rfl ?_); refine bxE (N := 1) (cs := #[.string b, .string c, .int .i64 d]) (t := 70) fun g hg a5 hbox hb => ?_; obtain ⟨HB', a, i⟩ := bx_ bE hg hbox hb; have B := i; clear HB hb hbox hg; have HB := HB'; clear HB'; obtain ⟨x, y, z, q, s, u⟩ := bk3_ a) | ((with_reducible refine gate_callee (f := 98) rfl ?_); refine gL _ Tryz.func98 _ ((origin_Check.calls k b c d _ _ A1.out).mono ?_); rintro e v ⟨rfl, hb⟩; refine ⟨_, rfl, ?_⟩; replace a := kM a hb; replace HB := bS bE hb; (try clear hb)))
  first
  | clear o
    have n0_ := Aside0.mk (blk_drew a.out); have n1_ := Aside0.mk (below_drew1 HB.out); clear a; clear HB; have a := n0_; have HB := n1_; clear n0_ n1_; refine start_ (n := 12) (S := fun w' => w'.cell? ⟨g, 0, none⟩ = some (.string b) ∧ w'.cell? ⟨g, 1, none⟩ = some (.string c) ∧ w'.cell? ⟨g, 2, none⟩ = some (.int .i64 d)) (ds := []) (bz 12 0) (by kernel_rfl) rfl rfl (bkc3_ a) (fun hHeld => ?_); refine with_tabW origin_Key.tab3 origin_Key.bits3 (fun HT_ HW_ => ?_); generalize v.drew = D at a HB hHeld ⊢; refine qA 0 6 12 1 ?_; refine qA 3 9 12 9 ?_; refine qA 7 13 12 137 ?_; refine tA3 1 7 12 139 ?_; refine qA 2 8 12 143 ?_; refine tA3 4 10 12 159 ?_; refine qA 5 11 12 191 ?_; refine qA 6 12 12 255 ?_; refine tA3 8 14 12 511 ?_; refine oB 9 15 12 1023 fun K hK => ?_; refine gS Tryz.func124 #[.int .i64 d] ?_
    with_reducible refine (strconv_Itoa.calls d A _ ?side1 A6.out).mono ?_
    (case side1 => exact ⟨lE⟩); rintro e E ⟨rfl, hb⟩; refine ⟨_, rfl, ?_⟩; replace a := kM a hb; replace HB := bS bE hb; (try clear hb); refine hK.out _ _ (bkc3_ a) (fun hHeld => ?_); clear hK K; refine nA 15 ?_; refine qA 10 16 12 2047 ?_; refine qA 11 2 12 4095 ?_; refine done_ (done_of HT_.out (by kernel_rfl)) ?_
    try go_wp2
    go_ret; exact ⟨rE, bE⟩
  | clear p
    go_ret; exact ⟨rE, bE⟩
def origin_Show.f (k : Nat) (a b : ByteArray) (c : Int) : Option (ByteArray) := (origin_Check.f k a b c).bind fun d => (if d = true then ((origin_Default.f a).bind fun e => (if c = e then (if a.size + 3 ≤ 9223372036854775807 then (if (a ++ (⟨#[58, 47, 47]⟩ : ByteArray)).size + b.size ≤ 9223372036854775807 then (some ((a ++ (⟨#[58, 47, 47]⟩ : ByteArray)) ++ b)) else (none)) else (none)) else ((origin_Key.f k a b c).bind fun g => (some g)))) else ((origin_Key.f k a b c).bind fun i => (some i)))
theorem origin_Show.mono : ∀ a b c k, LeO (origin_Show.f k a b c) (origin_Show.f (k + 1) a b c) := by
 intro a b c k
 have d := @origin_Check.mono; have e := @origin_Key.mono; unfold origin_Show.f
 exact moE
def origin_Show.T1 : Bool × List (List Nat × List Nat) := (true, [([], []), ([0], [0]), ([1, 1], [1]), ([2], [2]), ([3, 2], [2, 3]), ([2], [2]), ([5, 2], [2, 5]), ([6, 2, 2], [2, 6]), ([4, 7, 2], [2, 4, 7]), ([2, 8], [2, 8])])
def origin_Show.B1 : List Nat := [0, 1, 3, 7, 15, 7, 39, 103, 255, 511]
theorem origin_Show.tab1 : rtab .any (opsOf Tryz.f59 1) = origin_Show.T1 := by kernel_rfl
theorem origin_Show.bits1 : waitsOk origin_Show.T1.2 origin_Show.B1 = true := by kernel_rfl
theorem origin_Show.calls (k : Nat) (b c : ByteArray) (d : Int) (r : ByteArray) (w : World) (hM_ : Aside0 (LaidW w)) (h : origin_Show.f k b c d = some r) :
  Calls Tryz.prog 59 #[.agg #[.string b, .string c, .int .i64 d]] w fun e w' => e = .returned (.string r) ∧ Below w.heap.size w w' := by
 have U := Tryz.underlying70; have HB := Aside0.mk (Below.refl w.heap.size w); have H := h; clear h; unfold origin_Show.f at H; replace H := bd_ H; obtain ⟨t1, W, H⟩ := H; revert H; refine iteB_ (fun c2 H => ?g1p) (fun c2 H => ?g1n)
 case' g1p =>
  subst c2; replace H := bd_ H; obtain ⟨t2, L, H⟩ := H; revert H; refine iteEF_ (fun v x H => ?g2p) (fun c4 v x H => ?g2n)
  case' g2p =>
   revert H; refine iteNP_ fun c5 H => ?_; have X := eq_true c5; have Y := decide_eq_true c5
   try have Z : (9223372036854775807 < b.size + 3) = False := eq_false (Nat.not_lt.2 c5)
   revert H; refine iteNP_ fun c6 H => ?_
   try (have y := c6; simp only [ByteArray.size_append, Int.natCast_add] at y)
   have a0 := eq_true c6; have a1 := decide_eq_true c6
   try have a2 : (9223372036854775807 < (b ++ (⟨#[58, 47, 47]⟩ : ByteArray)).size + c.size) = False := eq_false (Nat.not_lt.2 c6)
   try have a3 : (9223372036854775807 < b.size + 3 + c.size) = False := eq_false (Nat.not_lt.2 (by have z_ := c6; simp only [ByteArray.size_append] at z_; first | exact z_ | simpa using z_))
   obtain rfl := si_ H; have i := trivial
  case' g2n =>
   replace H := bd_ H; obtain ⟨t3, A5, H⟩ := H; obtain rfl := si_ H; have i := trivial
 case' g1n =>
  subst c2; replace H := bd_ H; obtain ⟨t4, L, H⟩ := H; obtain rfl := si_ H; have z := trivial
 all_goals
  go_enter Tryz.func59, Tryz.ntmps59
  try go_wp2_with (first | ((with_reducible refine gate_dst (N := 1) rfl ?_); refine bxE (N := 1) (cs := #[.string b, .string c, .int .i64 d]) (t := 70) fun g hg A hbox hb => ?_; obtain ⟨HB', a, j⟩ := bx_ bE hg hbox hb; have M := j; clear HB hb hbox hg; have HB := HB'; clear HB'))
  have n0_ := Aside0.mk (blk_drew a.out); have n1_ := Aside0.mk (below_drew1 HB.out); clear a; clear HB; have a := n0_; have HB := n1_; clear n0_ n1_; refine start_ (n := 10) (S := fun w' => w'.cell? ⟨g, 0, none⟩ = some (.string b) ∧ w'.cell? ⟨g, 1, none⟩ = some (.string c) ∧ w'.cell? ⟨g, 2, none⟩ = some (.int .i64 d)) (ds := []) (bz 10 0) (by kernel_rfl) rfl rfl (bkc3_ a) (fun hHeld => ?_); refine with_tabW origin_Show.tab1 origin_Show.bits1 (fun HT_ HW_ => ?_); generalize A.drew = O at a HB hHeld ⊢; refine tA3 0 3 10 1 ?_; refine oB 1 4 10 3 fun K hK => ?_; refine gS Tryz.func98 #[.agg #[.string b, .string c, .int .i64 d]] ?_
  first
  | clear i
    with_reducible refine (origin_Check.calls k b c d true _ W.out).mono ?_
    rintro e l ⟨rfl, hb⟩; refine ⟨_, rfl, ?_⟩; replace a := kM a hb; replace HB := bS bE hb; (try clear hb); refine hK.out _ _ (bkc3_ a) (fun hHeld => ?_); clear hK K; refine nA 4 ?_; refine qA 2 5 10 7 ?_; refine qA 3 6 10 15 ?_; refine qA 5 8 10 47 ?_; refine tA3 4 7 10 63 ?_; refine tA3 6 9 10 127 ?_; refine oB 7 10 10 255 fun K hK => ?_; refine gS Tryz.func96 #[.string b] ?_
    with_reducible refine (origin_Default.calls b t2 _ L.out).mono ?_
    rintro e w' ⟨rfl, ⟨nd, rfl⟩⟩; refine ⟨_, rfl, ?_⟩; refine hK.out _ _ (bkc3_ a) (fun hHeld => ?_); clear hK K; refine nA 10 ?_; refine qA 8 11 10 511 ?_; refine qA 9 12 10 1023 ?_; refine done_ (done_of HT_.out (by kernel_rfl)) ?_; obtain ⟨B, D, E, m, o, p⟩ := bk3_ a
    try go_wp2_with (first | ((with_reducible refine gate_callee (f := 66) rfl ?_); refine gL _ Tryz.func66 _ ((origin_Key.calls k b c d _ _ ?side1 A5.out).mono ?_); (case side1 => exact ⟨lE⟩); rintro e a4 ⟨rfl, hb⟩; refine ⟨_, rfl, ?_⟩; replace a := kM a hb; replace HB := bS bE hb; (try clear hb)))
    go_ret; exact ⟨rE, bE⟩
  | clear z
    with_reducible refine (origin_Check.calls k b c d false _ W.out).mono ?_
    rintro e l ⟨rfl, hb⟩; refine ⟨_, rfl, ?_⟩; replace a := kM a hb; replace HB := bS bE hb; (try clear hb); refine hK.out _ _ (bkc3_ a) (fun hHeld => ?_); clear hK K; refine nA 4 ?_; refine qA 2 5 10 7 ?_; refine qU 3 6 10 15 ?_; refine qU 4 7 10 31 ?_; refine qU 5 8 10 63 ?_; refine qU 6 9 10 127 ?_; refine qU 7 10 10 255 ?_; refine qU 8 11 10 511 ?_; refine qA 9 12 10 1023 ?_; refine done_ (done_of HT_.out (by kernel_rfl)) ?_; obtain ⟨G, I, J, q, s, u⟩ := bk3_ a
    try go_wp2_with (first | ((with_reducible refine gate_callee (f := 66) rfl ?_); refine gL _ Tryz.func66 _ ((origin_Key.calls k b c d t4 _ ?side1 L.out).mono ?_); (case side1 => exact ⟨lE⟩); rintro e a5 ⟨rfl, hb⟩; refine ⟨_, rfl, ?_⟩; replace a := kM a hb; replace HB := bS bE hb; (try clear hb)))
    go_ret; exact ⟨rE, bE⟩
def target_show.f (k : Nat) (d e : ByteArray) (g : Int) (a c : ByteArray) : Option (ByteArray) := (origin_Show.f k d e g).bind fun b => (if b.size + a.size ≤ 9223372036854775807 then (if (b ++ a).size + c.size ≤ 9223372036854775807 then (some ((b ++ a) ++ c)) else (none)) else (none))
theorem target_show.mono : ∀ a b c d e k, LeO (target_show.f k a b c d e) (target_show.f (k + 1) a b c d e) := by
 intro a b c d e k
 have g := @origin_Show.mono; unfold target_show.f
 exact moE
def target_show.T1 : Bool × List (List Nat × List Nat) := (true, [([], []), ([0], [0]), ([1], [1]), ([], []), ([3], [3]), ([2, 4], [2, 4]), ([], []), ([6], [6]), ([5, 7], [5, 7]), ([8, 2, 0, 1, 2, 3, 4, 5, 6, 7, 8], [8])])
def target_show.B1 : List Nat := [0, 1, 3, 0, 8, 31, 0, 64, 255, 511]
theorem target_show.tab1 : rtab .any (opsOf Tryz.f94 1) = target_show.T1 := by kernel_rfl
theorem target_show.bits1 : waitsOk target_show.T1.2 target_show.B1 = true := by kernel_rfl
theorem target_show.calls (k : Nat) (d g : ByteArray) (i : Int) (b j r : ByteArray) (w : World) (hM_ : Aside0 (LaidW w)) (h : target_show.f k d g i b j = some r) :
  Calls Tryz.prog 94 #[.agg #[.string d, .string g, .int .i64 i, .string b, .string j]] w fun e w' => e = .returned (.string r) ∧ Below w.heap.size w w' := by
 have v := Tryz.underlying72; have x := Tryz.underlying70; have HB := Aside0.mk (Below.refl w.heap.size w); have H := h; clear h; unfold target_show.f at H; replace H := bd_ H; obtain ⟨p, I, H⟩ := H; revert H; refine iteNP_ fun c2 H => ?_; have y := eq_true c2; have z := decide_eq_true c2
 try have A : (9223372036854775807 < p.size + b.size) = False := eq_false (Nat.not_lt.2 c2)
 revert H; refine iteNP_ fun c3 H => ?_
 try (have m := c3; simp only [ByteArray.size_append, Int.natCast_add] at m)
 have B := eq_true c3; have D := decide_eq_true c3
 try have E : (9223372036854775807 < (p ++ b).size + j.size) = False := eq_false (Nat.not_lt.2 c3)
 try have G : (9223372036854775807 < p.size + b.size + j.size) = False := eq_false (Nat.not_lt.2 (by have z_ := c3; simp only [ByteArray.size_append] at z_; first | exact z_ | simpa using z_))
 obtain rfl := si_ H; go_enter Tryz.func94, Tryz.ntmps94
 try go_wp2_with (first | ((with_reducible refine gate_dst (N := 1) rfl ?_); refine bxE (N := 1) (cs := #[.string d, .string g, .int .i64 i, .string b, .string j]) (t := 72) fun c hg o hbox hb => ?_; obtain ⟨HB', a, l⟩ := bx_ bE hg hbox hb; have q := l; clear HB hb hbox hg; have HB := HB'; clear HB'))
 have n0_ := Aside0.mk (blk_drew a.out); have n1_ := Aside0.mk (below_drew1 HB.out); clear a; clear HB; have a := n0_; have HB := n1_; clear n0_ n1_; refine start_ (n := 10) (S := fun w' => w'.cell? ⟨c, 0, none⟩ = some (.string d) ∧ w'.cell? ⟨c, 1, none⟩ = some (.string g) ∧ w'.cell? ⟨c, 2, none⟩ = some (.int .i64 i) ∧ w'.cell? ⟨c, 3, none⟩ = some (.string b) ∧ w'.cell? ⟨c, 4, none⟩ = some (.string j)) (ds := []) (bz 10 0) (by kernel_rfl) rfl rfl (bkc5_ a) (fun hHeld => ?_); refine with_tabW target_show.tab1 target_show.bits1 (fun HT_ HW_ => ?_); generalize o.drew = s at a HB hHeld ⊢; refine qA 0 3 10 1 ?_; refine qA 3 6 10 9 ?_; refine qA 6 9 10 73 ?_; refine tA5 1 4 10 75 ?_; refine tA5 4 7 10 91 ?_; refine tA5 7 10 10 219 ?_; refine oB 2 5 10 223 fun K hK => ?_; refine gS Tryz.func59 #[.agg #[.string d, .string g, .int .i64 i]] ?_
 with_reducible refine (origin_Show.calls k d g i p _ ?side1 I.out).mono ?_
 (case side1 => exact ⟨lE⟩); rintro e u ⟨rfl, hb⟩; refine ⟨_, rfl, ?_⟩; replace a := kM a hb; replace HB := bS bE hb; (try clear hb); refine hK.out _ _ (bkc5_ a) (fun hHeld => ?_); clear hK K; refine nA 5 ?_; refine qA 5 8 10 255 ?_; refine qA 8 11 10 511 ?_; refine qA 9 2 10 1023 ?_; refine done_ (done_of HT_.out (by kernel_rfl)) ?_
 try go_wp2
 go_ret; exact ⟨rE, bE⟩
theorem eqA64 (d : Nat) (w : World) (a b : ByteArray) (c e : ByteArray) (g i : Bool) (j l : ByteArray) (m n : ByteArray) (o p : Int) :
  (Op.equalIn (d + 3) 64 (.agg #[.string a, .string c, .bool g, .string j, .string m, .int .u64 o]) (.agg #[.string b, .string e, .bool i, .string l, .string n, .int .u64 p])).run Tryz.prog w = .ok ((a.toList == b.toList && (c.toList == e.toList && (g == i))) && (j.toList == l.toList && (m.toList == n.toList && (o == p)))) w := by
 refine eqA_of Tryz.underlying64 (by kernel_rfl) ?_
 refine eqf_cons (by rfl) (by go_simp) (by go_simp) (eqA43 (d + 0) w _ _ _ _ _ _) ?_
 refine eqf_cons (by rfl) (by go_simp; rfl) (by go_simp; rfl) (by go_simp) ?_
 refine eqf_cons (by rfl) (by go_simp; rfl) (by go_simp; rfl) (by go_simp) ?_
 exact eqf_last (by rfl) (by go_simp; rfl) (by go_simp; rfl) (by go_simp)
end Go.Proofs.YtfmajangcbgooaaGreatDoor.Pr

