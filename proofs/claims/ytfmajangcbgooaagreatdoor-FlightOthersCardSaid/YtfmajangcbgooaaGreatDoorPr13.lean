import Derived.Test.YtfmajangcbgooaaGreatDoorPr0
import Derived.Test.YtfmajangcbgooaaGreatDoorK0
import Derived.Test.YtfmajangcbgooaaGreatDoorPr2
import Derived.Test.YtfmajangcbgooaaGreatDoorPr1
import Derived.Test.YtfmajangcbgooaaGreatDoorPr11
import Derived.Test.YtfmajangcbgooaaGreatDoorG4
namespace Go.Proofs.YtfmajangcbgooaaGreatDoor.Pr
open Go.RowKit Go.Proofs.YtfmajangcbgooaaGreatDoorW.PrintWords Go.Proofs.YtfmajangcbgooaaGreatDoorW.PrintLast Go.Proofs.YtfmajangcbgooaaGreatDoorW.PrintMore
attribute [local go_sem] max2_int min2_int max_two min_two max_three min_three max_four min_four
set_option linter.unusedVariables false
set_option maxHeartbeats 64000000
set_option maxRecDepth 100000
set_option linter.unusedSimpArgs false
def header_Get.l0 : Nat → ByteArray → List ByteArray → List (S28) → Int → Int → Option (ByteArray × Bool)
 | 0, _, _, _, _, _ => none
 | k + 1, j, c, d, b, a => if a < b then (if 0 ≤ a then (if a < (d.length : Int) then ((octet_Fold.f ((rd_T28 d a).f0) j).bind fun e => (if e = true then ((octet_Trim.f k ((rd_T28 d a).f1)).bind fun g => (if c.length < 8796093022208 then (header_Get.l0 k j (c ++ [g]) d b (wrap64 (a + 1))) else (none))) else (header_Get.l0 k j c d b (wrap64 (a + 1))))) else (none)) else (none)) else ((octet_Join.f c).bind fun i => (some (i, decide ((c.length : Int) > 0))))
def header_Get.f (k : Nat) (l0 : List (S28)) (a : ByteArray) : Option (ByteArray × Bool) := header_Get.l0 k a ([] : List ByteArray) l0 (l0.length : Int) 0
theorem header_Get.mono_l : ∀ k, (∀ a b c d e, LeO (header_Get.l0 k a b c d e) (header_Get.l0 (k + 1) a b c d e))
 | 0 => fun _ _ _ _ _ r h => by simp [header_Get.l0] at h
 | k + 1 => by
  have ih0 := header_Get.mono_l k
  ·intros
   have g := @octet_Trim.mono; unfold header_Get.l0
   exact moE
theorem header_Get.mono : ∀ a b k, LeO (header_Get.f k a b) (header_Get.f (k + 1) a b) := by
 intro a b k
 have ih0 := header_Get.mono_l k
 have c := @octet_Trim.mono; unfold header_Get.f
 exact moE
theorem header_Get.calls (k : Nat) (A0 : Option Addr) (c0 : Nat) (l0 : List (S28)) (X r1 : ByteArray) (r2 : Bool) (w : World) (y : Kd.C k28 w A0 l0.length l0) (z : l0.length ≤ c0) (h : header_Get.f k l0 X = some (r1, r2)) :
  Calls Tryz.prog 40 #[.slice A0 l0.length c0, .string X] w fun e w' => e = .returned (.tuple #[.string r1, .bool r2]) ∧ Below w.heap.size w w' := by
 have hu28 := Tryz.underlying28; have A := Aside0.mk y; have HC1 := Aside0.mk z; clear y z; have HB := Aside0.mk (Below.refl w.heap.size w); have H := h; clear h; unfold header_Get.f at H; have H' := Aside0.mk H; clear H; go_enter Tryz.func40, Tryz.ntmps40; go_wp2
 go_loopg [6, 11] k (fun kq B D w' => ∃ (d : List ByteArray) (a : Int), D = .int .i64 a ∧ Aside0 (header_Get.l0 kq X d l0 (l0.length : Int) a = some (r1, r2)) ∧ Aside0 (kq ≤ k) ∧ Aside0 (Kd.R Kd.string 9 w' w.heap.size (fun _ => True) B d) ∧ Aside0 (Below w.heap.size w w'))
 case atStart => exact ⟨(([] : List ByteArray)), (0), rS, H', ⟨Nat.le_refl _⟩, ⟨by first | exact Kd.R_nil _ _ _ _ _ | exact Kd.N_nil _ _ _ _ _ | exact Kd.V_nil _ _ _ _ _ | exact Kd.Q_nil _ _ _ _ _ | exact Kd.S_nil _ _ _ _ _⟩, ⟨bE⟩⟩
 case round =>
  clear H'; obtain ⟨d, a, rfl, HA, s, HO_6, HB⟩ := hrel
  cases gk with
  | zero => exact absurd HA.out (by simp [header_Get.l0])
  | succ k1 =>
   have H := HA.out; clear HA
   simp only [header_Get.l0] at H
   revert H; refine iteDD_ (fun E H => ?g1p) (fun E H => ?g1n)
   case' g1p =>
    revert H; refine iteND_ fun c4b0 => iteND_ fun c5b0 H => ?_; replace H := bd_ H; obtain ⟨t1, A6, H⟩ := H; revert H; refine iteB_ (fun c7 H => ?g2p) (fun c7 H => ?g2n)
    case' g2p =>
     subst c7; replace H := bd_ H; obtain ⟨t2, A8, H⟩ := H; revert H; refine iteNA_ fun G H => ?_
     try replace H := bsm_ H
     generalize q : (d ++ [t2]) = y10 at H; have I := Aside0.mk q.symm; clear q; have H' := Aside0.mk H; clear H; have u : 0 ≤ (a : Int) := of_decide_eq_true mE; have v : a < (l0.length : Int) := of_decide_eq_true mE; obtain ⟨ad11, e3, i, j⟩ := at_T28 A.out a u v
     cases e3
     replace i := (HB.out.cell (World.block_lt_of_cell? w _ i)).trans i; replace j := (HB.out.cell (World.block_lt_of_cell? w _ j)).trans j; replace u := eq_true u; replace v := eq_true v; have r := trivial; have J := trivial
    case' g2n =>
     subst c7; have H' := Aside0.mk H; clear H; have p8 : 0 ≤ (a : Int) := of_decide_eq_true mE; have q8 : a < (l0.length : Int) := of_decide_eq_true mE; obtain ⟨ad8, e2, m, n⟩ := at_T28 A.out a p8 q8
     cases e2
     replace m := (HB.out.cell (World.block_lt_of_cell? w _ m)).trans m; replace n := (HB.out.cell (World.block_lt_of_cell? w _ n)).trans n; replace p8 := eq_true p8; replace q8 := eq_true q8; have r := trivial; have K := trivial
   case' g1n =>
    replace H := bd_ H; obtain ⟨t1, A4, H⟩ := H
    simp only [Option.some.injEq, Prod.mk.injEq] at H
    obtain ⟨rfl, rfl⟩ := H; obtain ⟨Ao2, co2, eo2⟩ := Kd.R_slice HO_6.out; subst eo2; have L := trivial
   all_goals
    go_wp2_with (first | ((with_reducible refine gate_dst (N := 8) rfl ?_); refine bxE (N := 8) (cs := #[.string ⟨#[]⟩, .string ⟨#[]⟩]) (t := 28) fun l hg w1a2 hbox hb => ?_; have c := Aside0.mk (hbox); have GW1a1 := sE (w := w) hg; have GE1a1 := sE (w := w) hg; replace HO_6 := rM HO_6 hb; replace HB := bS bE hb; clear hb hbox hg; obtain ⟨Y, Z, M, O⟩ := bk2_ c) | ((with_reducible refine gate_callee (f := 70) rfl ?_); refine gL _ Tryz.func70 _ ((octet_Fold.calls ((rd_T28 l0 a).f0) X _ _ A6.out).mono ?_); rintro e w2a1 ⟨rfl, hb⟩; refine ⟨_, rfl, ?_⟩; have n0_ := Aside0.mk (Kd.R_below (by (with_reducible repeat (first | apply Kd.R_alloc | apply Kd.R_drewN | apply Kd.R_drew)); exact (Kd.R_mono (Kd.R_far (p := ⟨l, 1, none⟩) (Kd.R_far (p := ⟨l, 0, none⟩) (Kd.R_types HO_6.out c.out (by decide)) (fun _ hk => hk.2) (.string ((rd_T28 l0 a).f0))) (fun _ hk => hk.2) (.string ((rd_T28 l0 a).f1))) (fun _ h_ => h_.1))) hb); have n1_ := Aside0.mk (blk_below (g := l) (o := .cells #[.string ((rd_T28 l0 a).f0), .string ((rd_T28 l0 a).f1)] 28 (0, 0)) (kT) hb); have n2_ := bS bE hb; clear HO_6; clear c; clear HB; have HO_6 := n0_; have c := n1_; have HB := n2_; clear n0_ n1_ n2_; (try clear hb); (try clear hb2); (try clear hk); (try clear hi); obtain ⟨a0, a2, U, W⟩ := bk2_ c) | ((with_reducible refine gate_callee (f := 77) rfl ?_); refine gL _ Tryz.func77 _ ((octet_Trim.calls k1 ((rd_T28 l0 a).f1) _ _ A8.out).mono ?_); rintro e w' ⟨rfl, ⟨nd, rfl⟩⟩; refine ⟨_, rfl, ?_⟩) | ((with_reducible refine gate_builtin (b := .append) (xs := #[.tmp 19, .tmp 23]) rfl ?_); at_builtin; refine Kd.R_append Kd.string (w0 := w) w.heap.size rfl (.tmp 19) (.tmp 23) 39 9 (.string ⟨#[]⟩) 16 rfl Tryz.underlying39 info9 rfl (by decide) (by omega) u6 d t2 [.string t2] (fun _ => True) (fun _ => False) rfl rfl ?aP (fun _ hk => hk.elim) ?aF ?aO ?aB ?aS ?aL ?_; (case aP => exact rfl); (case aB => exact bE); (case aF => exact (fun _ _ => trivial)); (case aO => exact (rK HO_6.out)); (case aS => exact (below_size bE)); (case aL => have := G.out; omega); intro v4a1 w4a2 ho hb hg hat; rw [← I.out] at ho; have n0_ := Aside0.mk (blk_grown (g := l) (o := .cells #[.string ((rd_T28 l0 a).f0), .string ((rd_T28 l0 a).f1)] 28 (0, 0)) (kC c) hg (Kd.R_ne HO_6.out c.out (by decide))); have n1_ := Aside0.mk (hb); have n2_ := Aside0.mk (ho); clear c; clear HB; clear HO_6; have c := n0_; have HB := n1_; have x := n2_; clear n0_ n1_ n2_; clear ho hb hg hat) | ((with_reducible refine gate_callee (f := 78) rfl ?_); refine gL _ Tryz.func78 _ ((octet_Join.calls _ _ d t1 _ ?side1 ?side2 A4.out).mono ?_); (case side1 => repeat (first | exact (Kd.R_reads' HO_6.out).2.2 | (with_reducible refine Kd.C_alloc ?_ _) | (with_reducible refine Kd.C_drewN ?_ _) | (with_reducible refine Kd.C_drew ?_))); (case side2 => exact (Kd.R_reads' HO_6.out).2.1); rintro e w5a1 ⟨rfl, hb⟩; refine ⟨_, rfl, ?_⟩; replace HO_6 := rM HO_6 hb; replace HB := bS bE hb; (try clear hb)))
    first
    | clear r
      go_roundg k1
      case measure => have := s.out; omega
      first
      | clear J
        case rel => exact ⟨(y10), (wrap64 (a + 1)), rS, H', ⟨by have := s.out; omega⟩, ⟨by (with_reducible repeat (first | apply Kd.R_alloc | apply Kd.R_drewN | apply Kd.R_drew)); exact x.out⟩, ⟨bE⟩⟩
      | clear K
        case rel => exact ⟨(d), (wrap64 (a + 1)), rS, H', ⟨by have := s.out; omega⟩, ⟨by (with_reducible repeat (first | apply Kd.R_alloc | apply Kd.R_drewN | apply Kd.R_drew)); exact HO_6.out⟩, ⟨bE⟩⟩
    | clear L
      go_ret2; exact ⟨rE, bE⟩
mutual
def cors_Check.j0 : Nat → ByteArray → Bool → List (S28) → ByteArray → Bool → Bool → Option (Int)
 | 0, _, _, _, _, _, _ => none
 | k + 1, d, b, c, e, g, a => if a = true then (some 0) else (if g = true then (cors_Check.j1 k b c (e.toList != d.toList)) else (cors_Check.j1 k b c true))
def cors_Check.j1 : Nat → Bool → List (S28) → Bool → Option (Int)
 | 0, _, _, _ => none
 | k + 1, c, d, b => if b = true then (some 15) else ((header_Get.f k d (⟨#[97, 99, 99, 101, 115, 115, 45, 99, 111, 110, 116, 114, 111, 108, 45, 97, 108, 108, 111, 119, 45, 99, 114, 101, 100, 101, 110, 116, 105, 97, 108, 115]⟩ : ByteArray)).bind fun a => (if c = true then (if a.1.toList = ([116, 114, 117, 101] : List UInt8) then (some 0) else (some 15)) else (some 0)))
end
def cors_Check.f (k : Nat) (c : ByteArray) (b : Bool) (l2 : List (S28)) : Option (Int) := (header_Get.f k l2 (⟨#[97, 99, 99, 101, 115, 115, 45, 99, 111, 110, 116, 114, 111, 108, 45, 97, 108, 108, 111, 119, 45, 111, 114, 105, 103, 105, 110]⟩ : ByteArray)).bind fun a => (if a.2 = true then (if a.1.toList = ([42] : List UInt8) then (cors_Check.j0 k c b l2 a.1 a.2 (!b)) else (cors_Check.j0 k c b l2 a.1 a.2 false)) else (cors_Check.j0 k c b l2 a.1 a.2 false))
theorem cors_Check.mono_l : ∀ k, (∀ a b c d e g, LeO (cors_Check.j0 k a b c d e g) (cors_Check.j0 (k + 1) a b c d e g)) ∧ (∀ a b c, LeO (cors_Check.j1 k a b c) (cors_Check.j1 (k + 1) a b c))
 | 0 => ⟨fun _ _ _ _ _ _ r h => by simp [cors_Check.j0] at h, fun _ _ _ r h => by simp [cors_Check.j1] at h⟩
 | k + 1 => by
  obtain ⟨ih0, ih1⟩ := cors_Check.mono_l k
  have i := @header_Get.mono
  refine ⟨?_, ?_⟩
  ·intros
   unfold cors_Check.j0
   exact moE
  ·intros
   unfold cors_Check.j1
   exact moE
theorem cors_Check.mono : ∀ a b c k, LeO (cors_Check.f k a b c) (cors_Check.f (k + 1) a b c) := by
 intro a b c k
 obtain ⟨ih0, ih1⟩ := cors_Check.mono_l k
 have d := @header_Get.mono; unfold cors_Check.f
 exact moE
theorem cors_Check.calls (k : Nat) (j : ByteArray) (g : Bool) (Y : Option Addr) (K : Nat) (l2 : List (S28)) (r : Int) (w : World) (u : Kd.C k28 w Y l2.length l2) (v : l2.length ≤ K) (h : cors_Check.f k j g l2 = some r) :
  Calls Tryz.prog 72 #[.string j, .bool g, .slice Y l2.length K] w fun e w' => e = .returned (.int .i64 r) ∧ Below w.heap.size w w' := by
 have O := Aside0.mk u; have x := Aside0.mk v; clear u v; have HB := Aside0.mk (Below.refl w.heap.size w); have H := h; clear h; unfold cors_Check.f at H; replace H := bd_ H; obtain ⟨⟨l, t⟩, A3, H⟩ := H; replace H : (if t = true then (if l.toList = ([42] : List UInt8) then (cors_Check.j0 k j g l2 l t (!g)) else (cors_Check.j0 k j g l2 l t false)) else (cors_Check.j0 k j g l2 l t false)) = some r := H; have m := Aside0.mk H; clear H; go_enter Tryz.func72, Tryz.ntmps72
 go_upto_region 2 with (first | ((with_reducible refine gate_callee (f := 40) rfl ?_); refine gL _ Tryz.func40 _ ((header_Get.calls k _ _ l2 (⟨#[97, 99, 99, 101, 115, 115, 45, 99, 111, 110, 116, 114, 111, 108, 45, 97, 108, 108, 111, 119, 45, 111, 114, 105, 103, 105, 110]⟩ : ByteArray) l t _ ?side1 ?side2 A3.out).mono ?_); (case side1 => repeat (first | exact O.out | (with_reducible refine Kd.C_alloc ?_ _) | (with_reducible refine Kd.C_drewN ?_ _) | (with_reducible refine Kd.C_drew ?_))); (case side2 => exact x.out); rintro e Z ⟨rfl, hb⟩; refine ⟨_, rfl, ?_⟩; replace HB := bS bE hb; (try clear hb)))
 (try simp only [Act.put, List.setIfInBounds_toArray, List.set_cons_zero, List.set_cons_succ])
 go_cut [24] (fun y wc => ∃ (kq : Nat) (b : Bool), y = .bool b ∧ Aside0 (cors_Check.j0 kq j g l2 l t b = some r) ∧ Aside0 (kq ≤ k) ∧ Aside0 (Below w.heap.size w wc))
 case first =>
  have H := m.out; clear m; revert H; refine iteB_ (fun z H => ?g1p) (fun z H => ?g1n)
  case' g1p =>
   subst z; revert H; refine iteEF_ (fun a d H => ?g2p) (fun c6 a d H => ?g2n)
   case' g2p =>
    (first | rw [a] | (simp only [i64_w, i32_w]; rw [a]) | skip); have H' := Aside0.mk H; clear H; have A := trivial
   case' g2n =>
    (first | rw [a] | (simp only [i64_w, i32_w]; rw [a]) | skip); have H' := Aside0.mk H; clear H; have i := trivial
  case' g1n =>
   subst z; have H' := Aside0.mk H; clear H; have i := trivial
  all_goals
   go_wp2; go_meet
   first
   | clear A
     case rel => exact ⟨_, (!g), rS, H', ⟨oE⟩, ⟨bE⟩⟩
   | clear i
     case rel => exact ⟨_, (false), rS, H', ⟨oE⟩, ⟨bE⟩⟩
 case rest =>
  clear m; (try clear K); (try clear z); (try clear c6); (try clear a); (try clear d); obtain ⟨kq, b, rfl, HA, B, HB⟩ := hcut
  cases kq with
  | zero => exact absurd HA.out (by simp [cors_Check.j0])
  | succ U =>
   have H := HA.out; clear HA
   simp only [cors_Check.j0] at H
   revert H; refine iteB_ (fun L H => ?g4p) (fun L H => ?g4n)
   case' g4p =>
    subst L; obtain rfl := si_ H; have D := trivial
   case' g4n =>
    subst L; have n := Aside0.mk H; clear H; have E := trivial
   all_goals
    first
    | clear D
      go_wp2; go_ret; exact ⟨rE, bE⟩
    | clear E
      go_upto_region 4 with (first | (fail))
      go_cut [31] (fun G wc => ∃ (kq : Nat) (c : Bool), G = .bool c ∧ Aside0 (cors_Check.j1 kq g l2 c = some r) ∧ Aside0 (kq ≤ U) ∧ Aside0 (Below w.heap.size w wc))
      case first =>
       have H := n.out; clear n; revert H; refine iteB_ (fun M H => ?g6p) (fun M H => ?g6n)
       case' g6p =>
        subst M; have H' := Aside0.mk H; clear H; have I := trivial
       case' g6n =>
        subst M; have H' := Aside0.mk H; clear H; have J := trivial
       all_goals
        go_wp2; go_meet
        first
        | clear I
          case rel => exact ⟨_, ((l.toList != j.toList)), rS, H', ⟨by have := B.out; first | omega | exact Nat.le_refl _⟩, ⟨bE⟩⟩
        | clear J
          case rel => exact ⟨_, (true), rS, H', ⟨by have := B.out; first | omega | exact Nat.le_refl _⟩, ⟨bE⟩⟩
      case rest =>
       clear n; (try clear M); (try clear K); (try clear z); (try clear c6); (try clear a); (try clear d); (try clear L); obtain ⟨kq, c, rfl, HA, HJ9, HB⟩ := hcut
       cases kq with
       | zero => exact absurd HA.out (by simp [cors_Check.j1])
       | succ W =>
        have H := HA.out; clear HA
        simp only [cors_Check.j1] at H
        revert H; refine iteB_ (fun o H => ?g8p) (fun o H => ?g8n)
        case' g8p =>
         subst o; obtain rfl := si_ H
        case' g8n =>
         subst o; replace H := bd_ H; obtain ⟨⟨t4, t5⟩, X, H⟩ := H; replace H : (if g = true then (if t4.toList = ([116, 114, 117, 101] : List UInt8) then (some 0) else (some 15)) else (some 0)) = some r := H; revert H; refine iteB_ (fun p H => ?g9p) (fun p H => ?g9n)
         case' g9p =>
          subst p; revert H; refine iteEF_ (fun q s H => ?g10p) (fun c14 q s H => ?g10n)
          case' g10p =>
           obtain rfl := si_ H
          case' g10n =>
           obtain rfl := si_ H
         case' g9n =>
          subst p; obtain rfl := si_ H
        all_goals
         go_wp2_with (first | ((with_reducible refine gate_callee (f := 40) rfl ?_); refine gL _ Tryz.func40 _ ((header_Get.calls W _ _ l2 (⟨#[97, 99, 99, 101, 115, 115, 45, 99, 111, 110, 116, 114, 111, 108, 45, 97, 108, 108, 111, 119, 45, 99, 114, 101, 100, 101, 110, 116, 105, 97, 108, 115]⟩ : ByteArray) t4 t5 _ ?side1 ?side2 X.out).mono ?_); (case side1 => exact cE); (case side2 => exact x.out); rintro e w3a1 ⟨rfl, hb⟩; refine ⟨_, rfl, ?_⟩; replace HB := bS bE hb; (try clear hb))); go_ret; exact ⟨rE, bE⟩
def octet_Split.l0 : Nat → List ByteArray → List ByteArray → Int → Int → Option (List ByteArray)
 | 0, _, _, _, _ => none
 | k + 1, c, d, e, b => if b < e then (if 0 ≤ b then (if b < (d.length : Int) then ((octet_Trim.f k (rdOf ByteArray.empty d b)).bind fun a => (if a.toList = ([] : List UInt8) then (octet_Split.l0 k c d e (wrap64 (b + 1))) else (if c.length < 8796093022208 then (octet_Split.l0 k (c ++ [a]) d e (wrap64 (b + 1))) else (none)))) else (none)) else (none)) else (some c)
def octet_Split.f (k : Nat) (b : ByteArray) : Option (List ByteArray) := (strings_Split.f b (⟨#[44]⟩ : ByteArray)).bind fun a => (octet_Split.l0 k ([] : List ByteArray) a (a.length : Int) 0)
theorem octet_Split.mono_l : ∀ k, (∀ a b c d, LeO (octet_Split.l0 k a b c d) (octet_Split.l0 (k + 1) a b c d))
 | 0 => fun _ _ _ _ r h => by simp [octet_Split.l0] at h
 | k + 1 => by
  have ih0 := octet_Split.mono_l k
  ·intros
   have e := @octet_Trim.mono; unfold octet_Split.l0
   exact moE
theorem octet_Split.mono : ∀ a k, LeO (octet_Split.f k a) (octet_Split.f (k + 1) a) := by
 intro a k
 have ih0 := octet_Split.mono_l k
 have b := @octet_Trim.mono; unfold octet_Split.f
 exact moE
theorem octet_Split.calls (k : Nat) (K : ByteArray) (r : List ByteArray) (w : World) (h : octet_Split.f k K = some r) :
  Calls Tryz.prog 169 #[.string K] w fun e w' => ∃ u : Value, e = .returned (u) ∧ Kd.R Kd.string 9 w' w.heap.size (fun _ => True) u r ∧ Below w.heap.size w w' := by
 have HB := Aside0.mk (Below.refl w.heap.size w); have H := h; clear h; unfold octet_Split.f at H; replace H := bd_ H; obtain ⟨l, A1, H⟩ := H; have H' := Aside0.mk H; clear H; go_enter Tryz.func169, Tryz.ntmps169; go_wp2_with (first | ((with_reducible refine gate_callee (f := 142) rfl ?_); refine gL _ Tryz.func142 _ ((strings_Split.calls K (⟨#[44]⟩ : ByteArray) l _ A1.out).mono ?_); rintro e Y ⟨Z, rfl, g, hb⟩; refine ⟨_, rfl, ?_⟩; have n0_ := Aside0.mk (Kd.R_lower g (below_size bE)); have n1_ := bS bE hb; clear HB; have i := n0_; have HB := n1_; clear n0_ n1_; (try clear hb); (try clear hb1); (try clear hk); (try clear hi); (try clear g); obtain ⟨j, d, o⟩ := Kd.R_slice i.out; subst o))
 go_loopg [3, 9] k (fun kq m v w' => ∃ (c : List ByteArray) (a : Int), v = .int .i64 a ∧ Aside0 (octet_Split.l0 kq c l (l.length : Int) a = some r) ∧ Aside0 (kq ≤ k) ∧ Aside0 (Kd.R Kd.string 9 w' w.heap.size (fun k_ => some k_ ≠ ((.slice j l.length d) : Value).ownBlock) m c) ∧ Aside0 (Kd.R Kd.string 9 w' w.heap.size (fun k_ => some k_ ≠ (m : Value).ownBlock) (.slice j l.length d) l) ∧ Aside0 (Below w.heap.size w w'))
 case atStart => exact ⟨(([] : List ByteArray)), (0), rS, H', ⟨Nat.le_refl _⟩, ⟨by first | exact Kd.R_nil _ _ _ _ _ | exact Kd.N_nil _ _ _ _ _ | exact Kd.V_nil _ _ _ _ _ | exact Kd.Q_nil _ _ _ _ _ | exact Kd.S_nil _ _ _ _ _⟩, ⟨by (with_reducible repeat (first | apply Kd.R_alloc | apply Kd.R_drewN | apply Kd.R_drew)); exact Kd.R_mono i.out (fun _ hk => (by simp [Value.ownBlock]))⟩, ⟨bE⟩⟩
 case round =>
  clear H'; obtain ⟨c, a, rfl, HA, p, HO_3, HO_7, HB⟩ := hrel
  cases gk with
  | zero => exact absurd HA.out (by simp [octet_Split.l0])
  | succ k1 =>
   have H := HA.out; clear HA
   simp only [octet_Split.l0] at H
   revert H; refine iteDD_ (fun x H => ?g1p) (fun x H => ?g1n)
   case' g1p =>
    revert H; refine iteND_ fun a1 => iteND_ fun a2 H => ?_; replace H := bd_ H; obtain ⟨L, A6, H⟩ := H; revert H; refine iteEF_ (fun y z H => ?g2p) (fun c7 y z H => ?g2n)
    case' g2p =>
     have H' := Aside0.mk H; clear H; have M : 0 ≤ (a : Int) := of_decide_eq_true mE; have O : a < (l.length : Int) := of_decide_eq_true mE; obtain ⟨ad8, U, W⟩ := Kd.at_string (Kd.R_reads' HO_7.out).2.2 a M O
     cases U
     replace M := eq_true M; replace O := eq_true O; have n := trivial; have A := trivial
    case' g2n =>
     revert H; refine iteNA_ fun B H => ?_
     try replace H := bsm_ H
     generalize D : (c ++ [L]) = y9 at H; have X := Aside0.mk D.symm; clear D; have H' := Aside0.mk H; clear H; have q : 0 ≤ (a : Int) := of_decide_eq_true mE; have s : a < (l.length : Int) := of_decide_eq_true mE; obtain ⟨E, U, J⟩ := Kd.at_string (Kd.R_reads' HO_7.out).2.2 a q s
     cases U
     replace q := eq_true q; replace s := eq_true s; have n := trivial; have G := trivial
   case' g1n =>
    obtain rfl := si_ H; have I := trivial
   all_goals
    go_wp2_with (first | ((with_reducible refine gate_callee (f := 77) rfl ?_); refine gL _ Tryz.func77 _ ((octet_Trim.calls k1 (rdOf ByteArray.empty l a) _ _ A6.out).mono ?_); rintro e w' ⟨rfl, ⟨nd, rfl⟩⟩; refine ⟨_, rfl, ?_⟩) | ((with_reducible refine gate_builtin (b := .append) (xs := #[.tmp 17, .tmp 19]) rfl ?_); at_builtin; refine Kd.R_append Kd.string (w0 := w) w.heap.size rfl (.tmp 17) (.tmp 19) 39 9 (.string ⟨#[]⟩) 16 rfl Tryz.underlying39 info9 rfl (by decide) (by omega) u3 c L [.string L] (fun k_ => some k_ ≠ (.slice (some E) l.length d : Value).ownBlock) (fun _ => False) rfl rfl ?aP (fun _ hk => hk.elim) ?aF ?aO ?aB ?aS ?aL ?_; (case aP => exact rfl); (case aB => exact bE); (case aF => exact (fun k_ hk => Kd.fresh' (Kd.R_lt (rK HO_7.out)) k_ hk)); (case aO => exact (rK HO_3.out)); (case aS => exact (below_size bE)); (case aL => have := B.out; omega); intro a3 a4 ho hb hg hat; rw [← X.out] at ho; have n0_ := Aside0.mk (Kd.R_after (ok := (fun _ => True)) (rK (Kd.R_mono HO_7.out (fun _ hk => ⟨trivial, hk⟩))) hg hat); have n1_ := Aside0.mk (hb); have n2_ := Aside0.mk (ho); clear HO_7; clear HB; clear HO_3; have HO_7 := n0_; have HB := n1_; have t := n2_; clear n0_ n1_ n2_; clear ho hb hg hat))
    first
    | clear n
      go_roundg k1
      case measure => have := p.out; omega
      first
      | clear A
        case rel => exact ⟨(c), (wrap64 (a + 1)), rS, H', ⟨by have := p.out; omega⟩, ⟨by (with_reducible repeat (first | apply Kd.R_alloc | apply Kd.R_drewN | apply Kd.R_drew)); exact HO_3.out⟩, ⟨by (with_reducible repeat (first | apply Kd.R_alloc | apply Kd.R_drewN | apply Kd.R_drew)); exact HO_7.out⟩, ⟨bE⟩⟩
      | clear G
        case rel => exact ⟨(y9), (wrap64 (a + 1)), rS, H', ⟨by have := p.out; omega⟩, ⟨by (with_reducible repeat (first | apply Kd.R_alloc | apply Kd.R_drewN | apply Kd.R_drew)); exact t.out⟩, ⟨rK (Kd.R_mono HO_7.out (fun _ hk => hk.2))⟩, ⟨bE⟩⟩
    | clear I
      go_ret; exact ⟨_, rE, by (with_reducible repeat (first | apply Kd.R_alloc | apply Kd.R_drewN | apply Kd.R_drew)); exact Kd.R_mono HO_3.out (fun _ hk => trivial), bE⟩
def allow_tokens.l0 : Nat → List ByteArray → List ByteArray → Int → Int → Option (List ByteArray × Bool)
 | 0, _, _, _, _ => none
 | k + 1, e, b, c, a => if a < c then (if 0 ≤ a then (if a < (b.length : Int) then ((octet_Token.f k (rdOf ByteArray.empty b a)).bind fun d => (if d = true then (allow_tokens.l0 k e b c (wrap64 (a + 1))) else (some (([] : List ByteArray), false)))) else (none)) else (none)) else (some (e, true))
def allow_tokens.f (k : Nat) (l0 : List (S28)) (c : ByteArray) : Option (List ByteArray × Bool) := (header_Get.f k l0 c).bind fun b => ((octet_Split.f k b.1).bind fun a => (allow_tokens.l0 k a a (a.length : Int) 0))
theorem allow_tokens.mono_l : ∀ k, (∀ a b c d, LeO (allow_tokens.l0 k a b c d) (allow_tokens.l0 (k + 1) a b c d))
 | 0 => fun _ _ _ _ r h => by simp [allow_tokens.l0] at h
 | k + 1 => by
  have ih0 := allow_tokens.mono_l k
  ·intros
   have e := @header_Get.mono; have g := @octet_Split.mono; have i := @octet_Token.mono; unfold allow_tokens.l0
   exact moE
theorem allow_tokens.mono : ∀ a b k, LeO (allow_tokens.f k a b) (allow_tokens.f (k + 1) a b) := by
 intro a b k
 have ih0 := allow_tokens.mono_l k
 have c := @header_Get.mono; have d := @octet_Split.mono; have e := @octet_Token.mono; unfold allow_tokens.f
 exact moE
theorem allow_tokens.calls (k : Nat) (M : Option Addr) (O : Nat) (l0 : List (S28)) (D : ByteArray) (A : List ByteArray) (B : Bool) (w : World) (p : Kd.C k28 w M l0.length l0) (q : l0.length ≤ O) (h : allow_tokens.f k l0 D = some (A, B)) :
  Calls Tryz.prog 128 #[.slice M l0.length O, .string D] w fun e w' => ∃ r : Value, e = .returned (.tuple #[r, .bool B]) ∧ Kd.R Kd.string 9 w' w.heap.size (fun _ => True) r A ∧ Below w.heap.size w w' := by
 have E := Aside0.mk p; have G := Aside0.mk q; clear p q; have HB := Aside0.mk (Below.refl w.heap.size w); have H := h; clear h; unfold allow_tokens.f at H; replace H := bd_ H; obtain ⟨⟨I, t3⟩, A2, H⟩ := H; replace H : ((octet_Split.f k I).bind fun b => (allow_tokens.l0 k b b (b.length : Int) 0)) = some (A, B) := H; replace H := bd_ H; obtain ⟨b, A3, H⟩ := H; have H' := Aside0.mk H; clear H; go_enter Tryz.func128, Tryz.ntmps128; go_wp2_with (first | ((with_reducible refine gate_callee (f := 40) rfl ?_); refine gL _ Tryz.func40 _ ((header_Get.calls k _ _ l0 D I t3 _ ?side1 ?side2 A2.out).mono ?_); (case side1 => repeat (first | exact E.out | (with_reducible refine Kd.C_alloc ?_ _) | (with_reducible refine Kd.C_drewN ?_ _) | (with_reducible refine Kd.C_drew ?_))); (case side2 => exact G.out); rintro e U ⟨rfl, hb⟩; refine ⟨_, rfl, ?_⟩; replace HB := bS bE hb; (try clear hb)) | ((with_reducible refine gate_callee (f := 169) rfl ?_); refine gL _ Tryz.func169 _ ((octet_Split.calls k I b _ A3.out).mono ?_); rintro e W ⟨X, rfl, i, hb⟩; refine ⟨_, rfl, ?_⟩; have n0_ := Aside0.mk (Kd.R_lower i (below_size bE)); have n1_ := bS bE hb; clear HB; have c := n0_; have HB := n1_; clear n0_ n1_; (try clear hb); (try clear J); (try clear hk); (try clear hi); (try clear i); obtain ⟨j, l, o⟩ := Kd.R_slice c.out; subst o))
 go_loopg [21] k (fun kq s w' => ∃ (a : Int), s = .int .i64 a ∧ Aside0 (allow_tokens.l0 kq b b (b.length : Int) a = some (A, B)) ∧ Aside0 (kq ≤ k) ∧ Aside0 (Kd.R Kd.string 9 w' w.heap.size (fun _ => True) (.slice j b.length l) b) ∧ Aside0 (Kd.R Kd.string 9 w' w.heap.size (fun _ => True) (.slice j b.length l) b) ∧ Aside0 (Below w.heap.size w w'))
 case atStart => exact ⟨(0), rS, H', ⟨Nat.le_refl _⟩, ⟨by (with_reducible repeat (first | apply Kd.R_alloc | apply Kd.R_drewN | apply Kd.R_drew)); exact c.out⟩, ⟨by (with_reducible repeat (first | apply Kd.R_alloc | apply Kd.R_drewN | apply Kd.R_drew)); exact c.out⟩, ⟨bE⟩⟩
 case round =>
  clear H'; obtain ⟨a, rfl, HA, t, HO_8, HO_19, HB⟩ := hrel
  cases gk with
  | zero => exact absurd HA.out (by simp [allow_tokens.l0])
  | succ k1 =>
   have H := HA.out; clear HA
   simp only [allow_tokens.l0] at H
   revert H; refine iteDD_ (fun u H => ?g1p) (fun u H => ?g1n)
   case' g1p =>
    revert H; refine iteND_ fun Y => iteND_ fun Z H => ?_; replace H := bd_ H; obtain ⟨t4, A8, H⟩ := H; revert H; refine iteB_ (fun K H => ?g2p) (fun K H => ?g2n)
    case' g2p =>
     subst K; have H' := Aside0.mk H; clear H; have d : 0 ≤ (a : Int) := of_decide_eq_true mE; have g : a < (b.length : Int) := of_decide_eq_true mE; obtain ⟨v, L, m⟩ := Kd.at_string (Kd.R_reads' HO_19.out).2.2 a d g
     cases L
     replace d := eq_true d; replace g := eq_true g; have x := trivial
    case' g2n =>
     subst K
     simp only [Option.some.injEq, Prod.mk.injEq] at H
     obtain ⟨rfl, rfl⟩ := H; have d : 0 ≤ (a : Int) := of_decide_eq_true mE; have g : a < (b.length : Int) := of_decide_eq_true mE; obtain ⟨v, L, m⟩ := Kd.at_string (Kd.R_reads' HO_19.out).2.2 a d g
     cases L
     replace d := eq_true d; replace g := eq_true g; have n := trivial; have y := trivial
   case' g1n =>
    simp only [Option.some.injEq, Prod.mk.injEq] at H
    obtain ⟨rfl, rfl⟩ := H; have n := trivial; have z := trivial
   all_goals
    go_wp2_with (first | ((with_reducible refine gate_callee (f := 146) rfl ?_); refine gL _ Tryz.func146 _ ((octet_Token.calls k1 (rdOf ByteArray.empty b a) _ _ A8.out).mono ?_); rintro e w' ⟨rfl, ⟨nd, rfl⟩⟩; refine ⟨_, rfl, ?_⟩))
    first
    | clear x
      go_roundg k1
      case measure => have := t.out; omega
      case rel => exact ⟨(wrap64 (a + 1)), rS, H', ⟨by have := t.out; omega⟩, ⟨by (with_reducible repeat (first | apply Kd.R_alloc | apply Kd.R_drewN | apply Kd.R_drew)); exact HO_8.out⟩, ⟨by (with_reducible repeat (first | apply Kd.R_alloc | apply Kd.R_drewN | apply Kd.R_drew)); exact HO_19.out⟩, ⟨bE⟩⟩
    | clear n
      go_ret2
      first
      | clear y
        exact ⟨_, rE, by first | exact Kd.R_nil _ _ _ _ _ | exact Kd.N_nil _ _ _ _ _ | exact Kd.V_nil _ _ _ _ _ | exact Kd.Q_nil _ _ _ _ _ | exact Kd.S_nil _ _ _ _ _, bE⟩
      | clear z
        exact ⟨_, rE, by (with_reducible repeat (first | apply Kd.R_alloc | apply Kd.R_drewN | apply Kd.R_drew)); exact HO_8.out, bE⟩
end Go.Proofs.YtfmajangcbgooaaGreatDoor.Pr
