import Derived.Test.YtfmajangcbgooaaGreatDoorPr0
import Derived.Test.YtfmajangcbgooaaGreatDoorK0
import Derived.Test.YtfmajangcbgooaaGreatDoorPr4
import Derived.Test.YtfmajangcbgooaaGreatDoorPr12
import Derived.Test.YtfmajangcbgooaaGreatDoorPr13
import Derived.Test.YtfmajangcbgooaaGreatDoorG2
import Derived.Test.YtfmajangcbgooaaGreatDoorG4
import Derived.Test.YtfmajangcbgooaaGreatDoorG5
import Derived.Test.YtfmajangcbgooaaGreatDoorPr1
import Derived.Test.YtfmajangcbgooaaGreatDoorG1
import Derived.Test.YtfmajangcbgooaaGreatDoorG7
namespace Go.Proofs.YtfmajangcbgooaaGreatDoor.Pr
open Go.RowKit Go.Proofs.YtfmajangcbgooaaGreatDoorW.PrintWords Go.Proofs.YtfmajangcbgooaaGreatDoorW.PrintLast Go.Proofs.YtfmajangcbgooaaGreatDoorW.PrintMore
attribute [local go_sem] max2_int min2_int max_two min_two max_three min_three max_four min_four
set_option linter.unusedVariables false
set_option maxHeartbeats 64000000
set_option maxRecDepth 100000
set_option linter.unusedSimpArgs false
def ask_Needs.f (k : Nat) (b c d : ByteArray) (a : Int) (e : Bool) (g : List (S28)) (i j l m : Int) : Option (Bool) := if a = 3 then ((ask_Cross.f k b c d a e g i j l m).bind fun n => (if n = true then ((ask_plain.f k b c d a e g i j l m).bind fun o => (some (!o))) else (some false))) else (some false)
theorem ask_Needs.mono : ∀ a b c d e g i j l m k, LeO (ask_Needs.f k a b c d e g i j l m) (ask_Needs.f (k + 1) a b c d e g i j l m) := by
 intro a b c d e g i j l m k
 have n := @ask_Cross.mono; have o := @ask_plain.mono; unfold ask_Needs.f
 exact moE
theorem ask_Needs.calls (k : Nat) (c d g : ByteArray) (i : Int) (j : Bool) (q : Option Addr) (s : Nat) (b : List (S28)) (l m n o : Int) (r : Bool) (w : World) (u : Kd.C k28 w q b.length b) (v : b.length ≤ s) (hM_ : Aside0 (LaidW w)) (h : ask_Needs.f k c d g i j b l m n o = some r) :
  Calls Tryz.prog 14 #[.agg #[.string c, .string d, .string g, .int .i64 i, .bool j, .slice q b.length s, .int .i64 l, .int .u64 m, .int .i64 n, .int .i64 o]] w fun e w' => e = .returned (.bool r) ∧ Below w.heap.size w w' := by
 have ar := Tryz.underlying26; have ao := Aside0.mk u; have p := Aside0.mk v; clear u v; have HB := Aside0.mk (Below.refl w.heap.size w); have H := h; clear h; unfold ask_Needs.f at H; revert H; refine iteEF_ (fun y z H => ?g1p) (fun c2 y z H => ?g1n)
 case' g1p =>
  replace H := bd_ H; obtain ⟨t1, A3, H⟩ := H; revert H; refine iteB_ (fun c4 H => ?g2p) (fun c4 H => ?g2n)
  case' g2p =>
   subst c4; replace H := bd_ H; obtain ⟨t2, A5, H⟩ := H; obtain rfl := si_ H
  case' g2n =>
   subst c4; obtain rfl := si_ H
 case' g1n =>
  obtain rfl := si_ H
 all_goals
  go_enter Tryz.func14, Tryz.ntmps14; go_wp2_with (first | ((with_reducible refine gate_dst (N := 1) rfl ?_); refine bxE (N := 1) (cs := #[.string c, .string d, .string g, .int .i64 i, .bool j, .slice q b.length s, .int .i64 l, .int .u64 m, .int .i64 n, .int .i64 o]) (t := 26) fun ap hg w1a2 hbox hb => ?_; obtain ⟨HB', a, x⟩ := bx_ bE hg hbox hb; have aq := x; clear HB hb hbox hg; have HB := HB'; clear HB'; obtain ⟨a4, a5, a6, a7, a8, a9, aa, ab, ac, ad, A, B, D, E, G, I, J, K, L, M⟩ := bk10_ a) | (go_at_call 16; (with_reducible refine (ask_Cross.calls k c d g i j _ _ b l m n o true _ ?side1 ?side2 ?side3 A3.out).mono ?_); (case side1 => exact cE); (case side2 => exact p.out); (case side3 => exact ⟨lE⟩); rintro e w2a1 ⟨rfl, hb⟩; replace a := kM a hb; replace HB := bS bE hb; (try clear hb); obtain ⟨ae, af, ag, ah, ai, aj, ak, al, am, an, O, U, W, X, Y, Z, a0, a1, a2, a3⟩ := bk10_ a) | (go_at_call 48; (with_reducible refine (ask_plain.calls k c d g i j _ _ b l m n o t2 _ ?side1 ?side2 ?side3 A5.out).mono ?_); (case side1 => exact cE); (case side2 => exact p.out); (case side3 => exact ⟨lE⟩); rintro e w3a1 ⟨rfl, hb⟩; replace a := kM a hb; replace HB := bS bE hb; (try clear hb)) | (go_at_call 16; (with_reducible refine (ask_Cross.calls k c d g i j _ _ b l m n o false _ ?side1 ?side2 ?side3 A3.out).mono ?_); (case side1 => exact cE); (case side2 => exact p.out); (case side3 => exact ⟨lE⟩); rintro e w4a1 ⟨rfl, hb⟩; replace a := kM a hb; replace HB := bS bE hb; (try clear hb))); go_ret; exact ⟨rE, bE⟩
def octet_Join.f (l0 : List ByteArray) : Option (ByteArray) := (strings_Join.f l0 (⟨#[44, 32]⟩ : ByteArray)).bind fun a => (some a)
theorem octet_Join.calls (g : Option Addr) (i : Nat) (l0 : List ByteArray) (r : ByteArray) (w : World) (a : Kd.C Kd.string w g l0.length l0) (b : l0.length ≤ i) (h : octet_Join.f l0 = some r) :
  Calls Tryz.prog 78 #[.slice g l0.length i] w fun e w' => e = .returned (.string r) ∧ Below w.heap.size w w' := by
 have c := Aside0.mk a; have d := Aside0.mk b; clear a b; have HB := Aside0.mk (Below.refl w.heap.size w); have H := h; clear h; unfold octet_Join.f at H; replace H := bd_ H; obtain ⟨l, m, H⟩ := H; obtain rfl := si_ H; go_enter Tryz.func78, Tryz.ntmps78; go_wp2_with (first | ((with_reducible refine gate_callee (f := 68) rfl ?_); refine gL _ Tryz.func68 _ ((strings_Join.calls _ _ l0 (⟨#[44, 32]⟩ : ByteArray) l _ ?side1 ?side2 m.out).mono ?_); (case side1 => repeat (first | exact c.out | (with_reducible refine Kd.C_alloc ?_ _) | (with_reducible refine Kd.C_drewN ?_ _) | (with_reducible refine Kd.C_drew ?_))); (case side2 => exact d.out); rintro e j ⟨rfl, hb⟩; refine ⟨_, rfl, ?_⟩; replace HB := bS bE hb; (try clear hb))); go_ret; exact ⟨rE, bE⟩
def header_Get.l0 : Nat → ByteArray → List ByteArray → List (S28) → Int → Int → Option (ByteArray × Bool)
 | 0, _, _, _, _, _ => none
 | k + 1, j, c, d, b, a => if a < b then (if 0 ≤ a then (if a < (d.length : Int) then ((octet_Fold.f ((rd_T28 d a).f0) j).bind fun e => (if e = true then ((octet_Trim.f k ((rd_T28 d a).f1)).bind fun g => (if c.length < 8796093022208 then (header_Get.l0 k j (c ++ [g]) d b (wrap64 (a + 1))) else (none))) else (header_Get.l0 k j c d b (wrap64 (a + 1))))) else (none)) else (none)) else ((octet_Join.f c).bind fun i => (some (i, decide ((c.length : Int) > 0))))
def header_Get.f (k : Nat) (l0 : List (S28)) (a : ByteArray) : Option (ByteArray × Bool) := header_Get.l0 k a ([] : List ByteArray) l0 (l0.length : Int) 0
theorem header_Get.mono_l : ∀ k, (∀ a b c d e, LeO (header_Get.l0 k a b c d e) (header_Get.l0 (k + 1) a b c d e))
 | 0 => fun _ _ _ _ _ r h => by simp [header_Get.l0] at h
 | k + 1 => by
  have ih0 := header_Get.mono_l k
  ·intros
   have g := @octet_Trim.mono; unfold header_Get.l0
   exact moE
theorem header_Get.mono : ∀ a b k, LeO (header_Get.f k a b) (header_Get.f (k + 1) a b) := by
 intro a b k
 have ih0 := header_Get.mono_l k
 have c := @octet_Trim.mono; unfold header_Get.f
 exact moE
theorem header_Get.calls (k : Nat) (A0 : Option Addr) (c0 : Nat) (l0 : List (S28)) (X r1 : ByteArray) (r2 : Bool) (w : World) (y : Kd.C k28 w A0 l0.length l0) (z : l0.length ≤ c0) (h : header_Get.f k l0 X = some (r1, r2)) :
  Calls Tryz.prog 40 #[.slice A0 l0.length c0, .string X] w fun e w' => e = .returned (.tuple #[.string r1, .bool r2]) ∧ Below w.heap.size w w' := by
 have hu28 := Tryz.underlying28; have A := Aside0.mk y; have HC1 := Aside0.mk z; clear y z; have HB := Aside0.mk (Below.refl w.heap.size w); have H := h; clear h; unfold header_Get.f at H; have H' := Aside0.mk H; clear H; go_enter Tryz.func40, Tryz.ntmps40; go_wp2
 go_loopg [6, 11] k (fun kq B D w' => ∃ (d : List ByteArray) (a : Int), D = .int .i64 a ∧ Aside0 (header_Get.l0 kq X d l0 (l0.length : Int) a = some (r1, r2)) ∧ Aside0 (kq ≤ k) ∧ Aside0 (Kd.R Kd.string 9 w' w.heap.size (fun _ => True) B d) ∧ Aside0 (Below w.heap.size w w'))
 case atStart => exact ⟨(([] : List ByteArray)), (0), rS, H', ⟨Nat.le_refl _⟩, ⟨by first | exact Kd.R_nil _ _ _ _ _ | exact Kd.N_nil _ _ _ _ _ | exact Kd.V_nil _ _ _ _ _ | exact Kd.Q_nil _ _ _ _ _ | exact Kd.S_nil _ _ _ _ _⟩, ⟨bE⟩⟩
 case round =>
  clear H'; obtain ⟨d, a, rfl, HA, s, HO_6, HB⟩ := hrel
  cases gk with
  | zero => exact absurd HA.out (by simp [header_Get.l0])
  | succ k1 =>
   have H := HA.out; clear HA
   simp only [header_Get.l0] at H
   revert H; refine iteDD_ (fun E H => ?g1p) (fun E H => ?g1n)
   case' g1p =>
    revert H; refine iteND_ fun c4b0 => iteND_ fun c5b0 H => ?_; replace H := bd_ H; obtain ⟨t1, A6, H⟩ := H; revert H; refine iteB_ (fun c7 H => ?g2p) (fun c7 H => ?g2n)
    case' g2p =>
     subst c7; replace H := bd_ H; obtain ⟨t2, A8, H⟩ := H; revert H; refine iteNA_ fun G H => ?_
     try replace H := bsm_ H
     generalize q : (d ++ [t2]) = y10 at H; have I := Aside0.mk q.symm; clear q; have H' := Aside0.mk H; clear H; have u : 0 ≤ (a : Int) := of_decide_eq_true mE; have v : a < (l0.length : Int) := of_decide_eq_true mE; obtain ⟨ad11, e3, i, j⟩ := at_T28 A.out a u v
     cases e3
     replace i := (HB.out.cell (World.block_lt_of_cell? w _ i)).trans i; replace j := (HB.out.cell (World.block_lt_of_cell? w _ j)).trans j; replace u := eq_true u; replace v := eq_true v; have r := trivial; have J := trivial
    case' g2n =>
     subst c7; have H' := Aside0.mk H; clear H; have p8 : 0 ≤ (a : Int) := of_decide_eq_true mE; have q8 : a < (l0.length : Int) := of_decide_eq_true mE; obtain ⟨ad8, e2, m, n⟩ := at_T28 A.out a p8 q8
     cases e2
     replace m := (HB.out.cell (World.block_lt_of_cell? w _ m)).trans m; replace n := (HB.out.cell (World.block_lt_of_cell? w _ n)).trans n; replace p8 := eq_true p8; replace q8 := eq_true q8; have r := trivial; have K := trivial
   case' g1n =>
    replace H := bd_ H; obtain ⟨t1, A4, H⟩ := H
    simp only [Option.some.injEq, Prod.mk.injEq] at H
    obtain ⟨rfl, rfl⟩ := H; obtain ⟨Ao2, co2, eo2⟩ := Kd.R_slice HO_6.out; subst eo2; have L := trivial
   all_goals
    go_wp2_with (first | ((with_reducible refine gate_dst (N := 8) rfl ?_); refine bxE (N := 8) (cs := #[.string ⟨#[]⟩, .string ⟨#[]⟩]) (t := 28) fun l hg w1a2 hbox hb => ?_; have c := Aside0.mk (hbox); have GW1a1 := sE (w := w) hg; have GE1a1 := sE (w := w) hg; replace HO_6 := rM HO_6 hb; replace HB := bS bE hb; clear hb hbox hg; obtain ⟨Y, Z, M, O⟩ := bk2_ c) | ((with_reducible refine gate_callee (f := 70) rfl ?_); refine gL _ Tryz.func70 _ ((octet_Fold.calls ((rd_T28 l0 a).f0) X _ _ A6.out).mono ?_); rintro e w2a1 ⟨rfl, hb⟩; refine ⟨_, rfl, ?_⟩; have n0_ := Aside0.mk (Kd.R_below (by (with_reducible repeat (first | apply Kd.R_alloc | apply Kd.R_drewN | apply Kd.R_drew)); exact (Kd.R_mono (Kd.R_far (p := ⟨l, 1, none⟩) (Kd.R_far (p := ⟨l, 0, none⟩) (Kd.R_types HO_6.out c.out (by decide)) (fun _ hk => hk.2) (.string ((rd_T28 l0 a).f0))) (fun _ hk => hk.2) (.string ((rd_T28 l0 a).f1))) (fun _ h_ => h_.1))) hb); have n1_ := Aside0.mk (blk_below (g := l) (o := .cells #[.string ((rd_T28 l0 a).f0), .string ((rd_T28 l0 a).f1)] 28 (0, 0)) (kT) hb); have n2_ := bS bE hb; clear HO_6; clear c; clear HB; have HO_6 := n0_; have c := n1_; have HB := n2_; clear n0_ n1_ n2_; (try clear hb); (try clear hb2); (try clear hk); (try clear hi); obtain ⟨a0, a2, U, W⟩ := bk2_ c) | ((with_reducible refine gate_callee (f := 77) rfl ?_); refine gL _ Tryz.func77 _ ((octet_Trim.calls k1 ((rd_T28 l0 a).f1) _ _ A8.out).mono ?_); rintro e w' ⟨rfl, ⟨nd, rfl⟩⟩; refine ⟨_, rfl, ?_⟩) | ((with_reducible refine gate_builtin (b := .append) (xs := #[.tmp 19, .tmp 23]) rfl ?_); at_builtin; refine Kd.R_append Kd.string (w0 := w) w.heap.size rfl (.tmp 19) (.tmp 23) 39 9 (.string ⟨#[]⟩) 16 rfl Tryz.underlying39 info9 rfl (by decide) (by omega) u6 d t2 [.string t2] (fun _ => True) (fun _ => False) rfl rfl ?aP (fun _ hk => hk.elim) ?aF ?aO ?aB ?aS ?aL ?_; (case aP => exact rfl); (case aB => exact bE); (case aF => exact (fun _ _ => trivial)); (case aO => exact (rK HO_6.out)); (case aS => exact (below_size bE)); (case aL => have := G.out; omega); intro v4a1 w4a2 ho hb hg hat; rw [← I.out] at ho; have n0_ := Aside0.mk (blk_grown (g := l) (o := .cells #[.string ((rd_T28 l0 a).f0), .string ((rd_T28 l0 a).f1)] 28 (0, 0)) (kC c) hg (Kd.R_ne HO_6.out c.out (by decide))); have n1_ := Aside0.mk (hb); have n2_ := Aside0.mk (ho); clear c; clear HB; clear HO_6; have c := n0_; have HB := n1_; have x := n2_; clear n0_ n1_ n2_; clear ho hb hg hat) | ((with_reducible refine gate_callee (f := 78) rfl ?_); refine gL _ Tryz.func78 _ ((octet_Join.calls _ _ d t1 _ ?side1 ?side2 A4.out).mono ?_); (case side1 => repeat (first | exact (Kd.R_reads' HO_6.out).2.2 | (with_reducible refine Kd.C_alloc ?_ _) | (with_reducible refine Kd.C_drewN ?_ _) | (with_reducible refine Kd.C_drew ?_))); (case side2 => exact (Kd.R_reads' HO_6.out).2.1); rintro e w5a1 ⟨rfl, hb⟩; refine ⟨_, rfl, ?_⟩; replace HO_6 := rM HO_6 hb; replace HB := bS bE hb; (try clear hb)))
    first
    | clear r
      go_roundg k1
      case measure => have := s.out; omega
      first
      | clear J
        case rel => exact ⟨(y10), (wrap64 (a + 1)), rS, H', ⟨by have := s.out; omega⟩, ⟨by (with_reducible repeat (first | apply Kd.R_alloc | apply Kd.R_drewN | apply Kd.R_drew)); exact x.out⟩, ⟨bE⟩⟩
      | clear K
        case rel => exact ⟨(d), (wrap64 (a + 1)), rS, H', ⟨by have := s.out; omega⟩, ⟨by (with_reducible repeat (first | apply Kd.R_alloc | apply Kd.R_drewN | apply Kd.R_drew)); exact HO_6.out⟩, ⟨bE⟩⟩
    | clear L
      go_ret2; exact ⟨rE, bE⟩
mutual
def cors_Check.j0 : Nat → ByteArray → Bool → List (S28) → ByteArray → Bool → Bool → Option (Int)
 | 0, _, _, _, _, _, _ => none
 | k + 1, d, b, c, e, g, a => if a = true then (some 0) else (if g = true then (cors_Check.j1 k b c (e.toList != d.toList)) else (cors_Check.j1 k b c true))
def cors_Check.j1 : Nat → Bool → List (S28) → Bool → Option (Int)
 | 0, _, _, _ => none
 | k + 1, c, d, b => if b = true then (some 15) else ((header_Get.f k d (⟨#[97, 99, 99, 101, 115, 115, 45, 99, 111, 110, 116, 114, 111, 108, 45, 97, 108, 108, 111, 119, 45, 99, 114, 101, 100, 101, 110, 116, 105, 97, 108, 115]⟩ : ByteArray)).bind fun a => (if c = true then (if a.1.toList = ([116, 114, 117, 101] : List UInt8) then (some 0) else (some 15)) else (some 0)))
end
def cors_Check.f (k : Nat) (c : ByteArray) (b : Bool) (l2 : List (S28)) : Option (Int) := (header_Get.f k l2 (⟨#[97, 99, 99, 101, 115, 115, 45, 99, 111, 110, 116, 114, 111, 108, 45, 97, 108, 108, 111, 119, 45, 111, 114, 105, 103, 105, 110]⟩ : ByteArray)).bind fun a => (if a.2 = true then (if a.1.toList = ([42] : List UInt8) then (cors_Check.j0 k c b l2 a.1 a.2 (!b)) else (cors_Check.j0 k c b l2 a.1 a.2 false)) else (cors_Check.j0 k c b l2 a.1 a.2 false))
theorem cors_Check.mono_l : ∀ k, (∀ a b c d e g, LeO (cors_Check.j0 k a b c d e g) (cors_Check.j0 (k + 1) a b c d e g)) ∧ (∀ a b c, LeO (cors_Check.j1 k a b c) (cors_Check.j1 (k + 1) a b c))
 | 0 => ⟨fun _ _ _ _ _ _ r h => by simp [cors_Check.j0] at h, fun _ _ _ r h => by simp [cors_Check.j1] at h⟩
 | k + 1 => by
  obtain ⟨ih0, ih1⟩ := cors_Check.mono_l k
  have i := @header_Get.mono
  refine ⟨?_, ?_⟩
  ·intros
   unfold cors_Check.j0
   exact moE
  ·intros
   unfold cors_Check.j1
   exact moE
theorem cors_Check.mono : ∀ a b c k, LeO (cors_Check.f k a b c) (cors_Check.f (k + 1) a b c) := by
 intro a b c k
 obtain ⟨ih0, ih1⟩ := cors_Check.mono_l k
 have d := @header_Get.mono; unfold cors_Check.f
 exact moE
theorem cors_Check.calls (k : Nat) (j : ByteArray) (g : Bool) (O : Option Addr) (c2 : Nat) (l2 : List (S28)) (r : Int) (w : World) (u : Kd.C k28 w O l2.length l2) (v : l2.length ≤ c2) (h : cors_Check.f k j g l2 = some r) :
  Calls Tryz.prog 72 #[.string j, .bool g, .slice O l2.length c2] w fun e w' => e = .returned (.int .i64 r) ∧ Below w.heap.size w w' := by
 have J := Aside0.mk u; have x := Aside0.mk v; clear u v; have HB := Aside0.mk (Below.refl w.heap.size w); have H := h; clear h; unfold cors_Check.f at H; replace H := bd_ H; obtain ⟨⟨l, t⟩, Y, H⟩ := H; replace H : (if t = true then (if l.toList = ([42] : List UInt8) then (cors_Check.j0 k j g l2 l t (!g)) else (cors_Check.j0 k j g l2 l t false)) else (cors_Check.j0 k j g l2 l t false)) = some r := H; have m := Aside0.mk H; clear H; go_enter Tryz.func72, Tryz.ntmps72
 go_upto_region 2 with (first | ((with_reducible refine gate_callee (f := 40) rfl ?_); refine gL _ Tryz.func40 _ ((header_Get.calls k _ _ l2 (⟨#[97, 99, 99, 101, 115, 115, 45, 99, 111, 110, 116, 114, 111, 108, 45, 97, 108, 108, 111, 119, 45, 111, 114, 105, 103, 105, 110]⟩ : ByteArray) l t _ ?side1 ?side2 Y.out).mono ?_); (case side1 => repeat (first | exact J.out | (with_reducible refine Kd.C_alloc ?_ _) | (with_reducible refine Kd.C_drewN ?_ _) | (with_reducible refine Kd.C_drew ?_))); (case side2 => exact x.out); rintro e U ⟨rfl, hb⟩; refine ⟨_, rfl, ?_⟩; replace HB := bS bE hb; (try clear hb)))
 (try simp only [Act.put, List.setIfInBounds_toArray, List.set_cons_zero, List.set_cons_succ])
 go_cut [24] (fun y wc => ∃ (kq : Nat) (b : Bool), y = .bool b ∧ Aside0 (cors_Check.j0 kq j g l2 l t b = some r) ∧ Aside0 (kq ≤ k) ∧ Aside0 (Below w.heap.size w wc))
 case first =>
  have H := m.out; clear m; revert H; refine iteB_ (fun c5 H => ?g1p) (fun c5 H => ?g1n)
  case' g1p =>
   subst c5; revert H; refine iteEF_ (fun a d H => ?g2p) (fun c6 a d H => ?g2n)
   case' g2p =>
    (first | rw [a] | (simp only [i64_w, i32_w]; rw [a]) | skip); have H' := Aside0.mk H; clear H; have z := trivial
   case' g2n =>
    (first | rw [a] | (simp only [i64_w, i32_w]; rw [a]) | skip); have H' := Aside0.mk H; clear H; have i := trivial
  case' g1n =>
   subst c5; have H' := Aside0.mk H; clear H; have i := trivial
  all_goals
   go_wp2; go_meet
   first
   | clear z
     case rel => exact ⟨_, (!g), rS, H', ⟨oE⟩, ⟨bE⟩⟩
   | clear i
     case rel => exact ⟨_, (false), rS, H', ⟨oE⟩, ⟨bE⟩⟩
 case rest =>
  clear m; (try clear c2); (try clear c5); (try clear c6); (try clear a); (try clear d); obtain ⟨kq, b, rfl, HA, A, HB⟩ := hcut
  cases kq with
  | zero => exact absurd HA.out (by simp [cors_Check.j0])
  | succ K =>
   have H := HA.out; clear HA
   simp only [cors_Check.j0] at H
   revert H; refine iteB_ (fun c7 H => ?g4p) (fun c7 H => ?g4n)
   case' g4p =>
    subst c7; obtain rfl := si_ H; have B := trivial
   case' g4n =>
    subst c7; have n := Aside0.mk H; clear H; have D := trivial
   all_goals
    first
    | clear B
      go_wp2; go_ret; exact ⟨rE, bE⟩
    | clear D
      go_upto_region 4 with (first | (fail))
      go_cut [31] (fun E wc => ∃ (kq : Nat) (c : Bool), E = .bool c ∧ Aside0 (cors_Check.j1 kq g l2 c = some r) ∧ Aside0 (kq ≤ K) ∧ Aside0 (Below w.heap.size w wc))
      case first =>
       have H := n.out; clear n; revert H; refine iteB_ (fun c9 H => ?g6p) (fun c9 H => ?g6n)
       case' g6p =>
        subst c9; have H' := Aside0.mk H; clear H; have G := trivial
       case' g6n =>
        subst c9; have H' := Aside0.mk H; clear H; have I := trivial
       all_goals
        go_wp2; go_meet
        first
        | clear G
          case rel => exact ⟨_, ((l.toList != j.toList)), rS, H', ⟨by have := A.out; first | omega | exact Nat.le_refl _⟩, ⟨bE⟩⟩
        | clear I
          case rel => exact ⟨_, (true), rS, H', ⟨by have := A.out; first | omega | exact Nat.le_refl _⟩, ⟨bE⟩⟩
      case rest =>
       clear n; (try clear c9); (try clear c2); (try clear c5); (try clear c6); (try clear a); (try clear d); (try clear c7); obtain ⟨kq, c, rfl, HA, Z, HB⟩ := hcut
       cases kq with
       | zero => exact absurd HA.out (by simp [cors_Check.j1])
       | succ L =>
        have H := HA.out; clear HA
        simp only [cors_Check.j1] at H
        revert H; refine iteB_ (fun o H => ?g8p) (fun o H => ?g8n)
        case' g8p =>
         subst o; obtain rfl := si_ H
        case' g8n =>
         subst o; replace H := bd_ H; obtain ⟨⟨W, t5⟩, M, H⟩ := H; replace H : (if g = true then (if W.toList = ([116, 114, 117, 101] : List UInt8) then (some 0) else (some 15)) else (some 0)) = some r := H; revert H; refine iteB_ (fun p H => ?g9p) (fun p H => ?g9n)
         case' g9p =>
          subst p; revert H; refine iteEF_ (fun q s H => ?g10p) (fun c14 q s H => ?g10n)
          case' g10p =>
           obtain rfl := si_ H
          case' g10n =>
           obtain rfl := si_ H
         case' g9n =>
          subst p; obtain rfl := si_ H
        all_goals
         go_wp2_with (first | ((with_reducible refine gate_callee (f := 40) rfl ?_); refine gL _ Tryz.func40 _ ((header_Get.calls L _ _ l2 (⟨#[97, 99, 99, 101, 115, 115, 45, 99, 111, 110, 116, 114, 111, 108, 45, 97, 108, 108, 111, 119, 45, 99, 114, 101, 100, 101, 110, 116, 105, 97, 108, 115]⟩ : ByteArray) W t5 _ ?side1 ?side2 M.out).mono ?_); (case side1 => exact cE); (case side2 => exact x.out); rintro e X ⟨rfl, hb⟩; refine ⟨_, rfl, ?_⟩; replace HB := bS bE hb; (try clear hb))); go_ret; exact ⟨rE, bE⟩
def octet_Split.l0 : Nat → List ByteArray → List ByteArray → Int → Int → Option (List ByteArray)
 | 0, _, _, _, _ => none
 | k + 1, c, d, e, b => if b < e then (if 0 ≤ b then (if b < (d.length : Int) then ((octet_Trim.f k (rdOf ByteArray.empty d b)).bind fun a => (if a.toList = ([] : List UInt8) then (octet_Split.l0 k c d e (wrap64 (b + 1))) else (if c.length < 8796093022208 then (octet_Split.l0 k (c ++ [a]) d e (wrap64 (b + 1))) else (none)))) else (none)) else (none)) else (some c)
def octet_Split.f (k : Nat) (b : ByteArray) : Option (List ByteArray) := (strings_Split.f b (⟨#[44]⟩ : ByteArray)).bind fun a => (octet_Split.l0 k ([] : List ByteArray) a (a.length : Int) 0)
theorem octet_Split.mono_l : ∀ k, (∀ a b c d, LeO (octet_Split.l0 k a b c d) (octet_Split.l0 (k + 1) a b c d))
 | 0 => fun _ _ _ _ r h => by simp [octet_Split.l0] at h
 | k + 1 => by
  have ih0 := octet_Split.mono_l k
  ·intros
   have e := @octet_Trim.mono; unfold octet_Split.l0
   exact moE
theorem octet_Split.mono : ∀ a k, LeO (octet_Split.f k a) (octet_Split.f (k + 1) a) := by
 intro a k
 have ih0 := octet_Split.mono_l k
 have b := @octet_Trim.mono; unfold octet_Split.f
 exact moE
theorem octet_Split.calls (k : Nat) (K : ByteArray) (r : List ByteArray) (w : World) (h : octet_Split.f k K = some r) :
  Calls Tryz.prog 169 #[.string K] w fun e w' => ∃ u : Value, e = .returned (u) ∧ Kd.R Kd.string 9 w' w.heap.size (fun _ => True) u r ∧ Below w.heap.size w w' := by
 have HB := Aside0.mk (Below.refl w.heap.size w); have H := h; clear h; unfold octet_Split.f at H; replace H := bd_ H; obtain ⟨l, A1, H⟩ := H; have H' := Aside0.mk H; clear H; go_enter Tryz.func169, Tryz.ntmps169; go_wp2_with (first | ((with_reducible refine gate_callee (f := 142) rfl ?_); refine gL _ Tryz.func142 _ ((strings_Split.calls K (⟨#[44]⟩ : ByteArray) l _ A1.out).mono ?_); rintro e Y ⟨Z, rfl, g, hb⟩; refine ⟨_, rfl, ?_⟩; have n0_ := Aside0.mk (Kd.R_lower g (below_size bE)); have n1_ := bS bE hb; clear HB; have i := n0_; have HB := n1_; clear n0_ n1_; (try clear hb); (try clear hb1); (try clear hk); (try clear hi); (try clear g); obtain ⟨j, d, o⟩ := Kd.R_slice i.out; subst o))
 go_loopg [3, 9] k (fun kq m v w' => ∃ (c : List ByteArray) (a : Int), v = .int .i64 a ∧ Aside0 (octet_Split.l0 kq c l (l.length : Int) a = some r) ∧ Aside0 (kq ≤ k) ∧ Aside0 (Kd.R Kd.string 9 w' w.heap.size (fun k_ => some k_ ≠ ((.slice j l.length d) : Value).ownBlock) m c) ∧ Aside0 (Kd.R Kd.string 9 w' w.heap.size (fun k_ => some k_ ≠ (m : Value).ownBlock) (.slice j l.length d) l) ∧ Aside0 (Below w.heap.size w w'))
 case atStart => exact ⟨(([] : List ByteArray)), (0), rS, H', ⟨Nat.le_refl _⟩, ⟨by first | exact Kd.R_nil _ _ _ _ _ | exact Kd.N_nil _ _ _ _ _ | exact Kd.V_nil _ _ _ _ _ | exact Kd.Q_nil _ _ _ _ _ | exact Kd.S_nil _ _ _ _ _⟩, ⟨by (with_reducible repeat (first | apply Kd.R_alloc | apply Kd.R_drewN | apply Kd.R_drew)); exact Kd.R_mono i.out (fun _ hk => (by simp [Value.ownBlock]))⟩, ⟨bE⟩⟩
 case round =>
  clear H'; obtain ⟨c, a, rfl, HA, p, HO_3, HO_7, HB⟩ := hrel
  cases gk with
  | zero => exact absurd HA.out (by simp [octet_Split.l0])
  | succ k1 =>
   have H := HA.out; clear HA
   simp only [octet_Split.l0] at H
   revert H; refine iteDD_ (fun x H => ?g1p) (fun x H => ?g1n)
   case' g1p =>
    revert H; refine iteND_ fun a1 => iteND_ fun a2 H => ?_; replace H := bd_ H; obtain ⟨L, A6, H⟩ := H; revert H; refine iteEF_ (fun y z H => ?g2p) (fun c7 y z H => ?g2n)
    case' g2p =>
     have H' := Aside0.mk H; clear H; have M : 0 ≤ (a : Int) := of_decide_eq_true mE; have O : a < (l.length : Int) := of_decide_eq_true mE; obtain ⟨ad8, U, W⟩ := Kd.at_string (Kd.R_reads' HO_7.out).2.2 a M O
     cases U
     replace M := eq_true M; replace O := eq_true O; have n := trivial; have A := trivial
    case' g2n =>
     revert H; refine iteNA_ fun B H => ?_
     try replace H := bsm_ H
     generalize D : (c ++ [L]) = y9 at H; have X := Aside0.mk D.symm; clear D; have H' := Aside0.mk H; clear H; have q : 0 ≤ (a : Int) := of_decide_eq_true mE; have s : a < (l.length : Int) := of_decide_eq_true mE; obtain ⟨E, U, J⟩ := Kd.at_string (Kd.R_reads' HO_7.out).2.2 a q s
     cases U
     replace q := eq_true q; replace s := eq_true s; have n := trivial; have G := trivial
   case' g1n =>
    obtain rfl := si_ H; have I := trivial
   all_goals
    go_wp2_with (first | ((with_reducible refine gate_callee (f := 77) rfl ?_); refine gL _ Tryz.func77 _ ((octet_Trim.calls k1 (rdOf ByteArray.empty l a) _ _ A6.out).mono ?_); rintro e w' ⟨rfl, ⟨nd, rfl⟩⟩; refine ⟨_, rfl, ?_⟩) | ((with_reducible refine gate_builtin (b := .append) (xs := #[.tmp 17, .tmp 19]) rfl ?_); at_builtin; refine Kd.R_append Kd.string (w0 := w) w.heap.size rfl (.tmp 17) (.tmp 19) 39 9 (.string ⟨#[]⟩) 16 rfl Tryz.underlying39 info9 rfl (by decide) (by omega) u3 c L [.string L] (fun k_ => some k_ ≠ (.slice (some E) l.length d : Value).ownBlock) (fun _ => False) rfl rfl ?aP (fun _ hk => hk.elim) ?aF ?aO ?aB ?aS ?aL ?_; (case aP => exact rfl); (case aB => exact bE); (case aF => exact (fun k_ hk => Kd.fresh' (Kd.R_lt (rK HO_7.out)) k_ hk)); (case aO => exact (rK HO_3.out)); (case aS => exact (below_size bE)); (case aL => have := B.out; omega); intro a3 a4 ho hb hg hat; rw [← X.out] at ho; have n0_ := Aside0.mk (Kd.R_after (ok := (fun _ => True)) (rK (Kd.R_mono HO_7.out (fun _ hk => ⟨trivial, hk⟩))) hg hat); have n1_ := Aside0.mk (hb); have n2_ := Aside0.mk (ho); clear HO_7; clear HB; clear HO_3; have HO_7 := n0_; have HB := n1_; have t := n2_; clear n0_ n1_ n2_; clear ho hb hg hat))
    first
    | clear n
      go_roundg k1
      case measure => have := p.out; omega
      first
      | clear A
        case rel => exact ⟨(c), (wrap64 (a + 1)), rS, H', ⟨by have := p.out; omega⟩, ⟨by (with_reducible repeat (first | apply Kd.R_alloc | apply Kd.R_drewN | apply Kd.R_drew)); exact HO_3.out⟩, ⟨by (with_reducible repeat (first | apply Kd.R_alloc | apply Kd.R_drewN | apply Kd.R_drew)); exact HO_7.out⟩, ⟨bE⟩⟩
      | clear G
        case rel => exact ⟨(y9), (wrap64 (a + 1)), rS, H', ⟨by have := p.out; omega⟩, ⟨by (with_reducible repeat (first | apply Kd.R_alloc | apply Kd.R_drewN | apply Kd.R_drew)); exact t.out⟩, ⟨rK (Kd.R_mono HO_7.out (fun _ hk => hk.2))⟩, ⟨bE⟩⟩
    | clear I
      go_ret; exact ⟨_, rE, by (with_reducible repeat (first | apply Kd.R_alloc | apply Kd.R_drewN | apply Kd.R_drew)); exact Kd.R_mono HO_3.out (fun _ hk => trivial), bE⟩
def allow_tokens.l0 : Nat → List ByteArray → List ByteArray → Int → Int → Option (List ByteArray × Bool)
 | 0, _, _, _, _ => none
 | k + 1, e, b, c, a => if a < c then (if 0 ≤ a then (if a < (b.length : Int) then ((octet_Token.f k (rdOf ByteArray.empty b a)).bind fun d => (if d = true then (allow_tokens.l0 k e b c (wrap64 (a + 1))) else (some (([] : List ByteArray), false)))) else (none)) else (none)) else (some (e, true))
def allow_tokens.f (k : Nat) (l0 : List (S28)) (c : ByteArray) : Option (List ByteArray × Bool) := (header_Get.f k l0 c).bind fun b => ((octet_Split.f k b.1).bind fun a => (allow_tokens.l0 k a a (a.length : Int) 0))
theorem allow_tokens.mono_l : ∀ k, (∀ a b c d, LeO (allow_tokens.l0 k a b c d) (allow_tokens.l0 (k + 1) a b c d))
 | 0 => fun _ _ _ _ r h => by simp [allow_tokens.l0] at h
 | k + 1 => by
  have ih0 := allow_tokens.mono_l k
  ·intros
   have e := @header_Get.mono; have g := @octet_Split.mono; have i := @octet_Token.mono; unfold allow_tokens.l0
   exact moE
theorem allow_tokens.mono : ∀ a b k, LeO (allow_tokens.f k a b) (allow_tokens.f (k + 1) a b) := by
 intro a b k
 have ih0 := allow_tokens.mono_l k
 have c := @header_Get.mono; have d := @octet_Split.mono; have e := @octet_Token.mono; unfold allow_tokens.f
 exact moE
theorem allow_tokens.calls (k : Nat) (L : Option Addr) (M : Nat) (l0 : List (S28)) (D : ByteArray) (A : List ByteArray) (B : Bool) (w : World) (p : Kd.C k28 w L l0.length l0) (q : l0.length ≤ M) (h : allow_tokens.f k l0 D = some (A, B)) :
  Calls Tryz.prog 128 #[.slice L l0.length M, .string D] w fun e w' => ∃ r : Value, e = .returned (.tuple #[r, .bool B]) ∧ Kd.R Kd.string 9 w' w.heap.size (fun _ => True) r A ∧ Below w.heap.size w w' := by
 have E := Aside0.mk p; have G := Aside0.mk q; clear p q; have HB := Aside0.mk (Below.refl w.heap.size w); have H := h; clear h; unfold allow_tokens.f at H; replace H := bd_ H; obtain ⟨⟨I, Z⟩, A2, H⟩ := H; replace H : ((octet_Split.f k I).bind fun b => (allow_tokens.l0 k b b (b.length : Int) 0)) = some (A, B) := H; replace H := bd_ H; obtain ⟨b, A3, H⟩ := H; have H' := Aside0.mk H; clear H; go_enter Tryz.func128, Tryz.ntmps128; go_wp2_with (first | ((with_reducible refine gate_callee (f := 40) rfl ?_); refine gL _ Tryz.func40 _ ((header_Get.calls k _ _ l0 D I Z _ ?side1 ?side2 A2.out).mono ?_); (case side1 => repeat (first | exact E.out | (with_reducible refine Kd.C_alloc ?_ _) | (with_reducible refine Kd.C_drewN ?_ _) | (with_reducible refine Kd.C_drew ?_))); (case side2 => exact G.out); rintro e O ⟨rfl, hb⟩; refine ⟨_, rfl, ?_⟩; replace HB := bS bE hb; (try clear hb)) | ((with_reducible refine gate_callee (f := 169) rfl ?_); refine gL _ Tryz.func169 _ ((octet_Split.calls k I b _ A3.out).mono ?_); rintro e U ⟨W, rfl, i, hb⟩; refine ⟨_, rfl, ?_⟩; have n0_ := Aside0.mk (Kd.R_lower i (below_size bE)); have n1_ := bS bE hb; clear HB; have c := n0_; have HB := n1_; clear n0_ n1_; (try clear hb); (try clear J); (try clear hk); (try clear hi); (try clear i); obtain ⟨j, l, o⟩ := Kd.R_slice c.out; subst o))
 go_loopg [21] k (fun kq s w' => ∃ (a : Int), s = .int .i64 a ∧ Aside0 (allow_tokens.l0 kq b b (b.length : Int) a = some (A, B)) ∧ Aside0 (kq ≤ k) ∧ Aside0 (Kd.R Kd.string 9 w' w.heap.size (fun _ => True) (.slice j b.length l) b) ∧ Aside0 (Kd.R Kd.string 9 w' w.heap.size (fun _ => True) (.slice j b.length l) b) ∧ Aside0 (Below w.heap.size w w'))
 case atStart => exact ⟨(0), rS, H', ⟨Nat.le_refl _⟩, ⟨by (with_reducible repeat (first | apply Kd.R_alloc | apply Kd.R_drewN | apply Kd.R_drew)); exact c.out⟩, ⟨by (with_reducible repeat (first | apply Kd.R_alloc | apply Kd.R_drewN | apply Kd.R_drew)); exact c.out⟩, ⟨bE⟩⟩
 case round =>
  clear H'; obtain ⟨a, rfl, HA, t, HO_8, HO_19, HB⟩ := hrel
  cases gk with
  | zero => exact absurd HA.out (by simp [allow_tokens.l0])
  | succ k1 =>
   have H := HA.out; clear HA
   simp only [allow_tokens.l0] at H
   revert H; refine iteDD_ (fun u H => ?g1p) (fun u H => ?g1n)
   case' g1p =>
    revert H; refine iteND_ fun X => iteND_ fun Y H => ?_; replace H := bd_ H; obtain ⟨t4, A8, H⟩ := H; revert H; refine iteB_ (fun c9 H => ?g2p) (fun c9 H => ?g2n)
    case' g2p =>
     subst c9; have H' := Aside0.mk H; clear H; have d : 0 ≤ (a : Int) := of_decide_eq_true mE; have g : a < (b.length : Int) := of_decide_eq_true mE; obtain ⟨v, K, m⟩ := Kd.at_string (Kd.R_reads' HO_19.out).2.2 a d g
     cases K
     replace d := eq_true d; replace g := eq_true g; have x := trivial
    case' g2n =>
     subst c9
     simp only [Option.some.injEq, Prod.mk.injEq] at H
     obtain ⟨rfl, rfl⟩ := H; have d : 0 ≤ (a : Int) := of_decide_eq_true mE; have g : a < (b.length : Int) := of_decide_eq_true mE; obtain ⟨v, K, m⟩ := Kd.at_string (Kd.R_reads' HO_19.out).2.2 a d g
     cases K
     replace d := eq_true d; replace g := eq_true g; have n := trivial; have y := trivial
   case' g1n =>
    simp only [Option.some.injEq, Prod.mk.injEq] at H
    obtain ⟨rfl, rfl⟩ := H; have n := trivial; have z := trivial
   all_goals
    go_wp2_with (first | ((with_reducible refine gate_callee (f := 146) rfl ?_); refine gL _ Tryz.func146 _ ((octet_Token.calls k1 (rdOf ByteArray.empty b a) _ _ A8.out).mono ?_); rintro e w' ⟨rfl, ⟨nd, rfl⟩⟩; refine ⟨_, rfl, ?_⟩))
    first
    | clear x
      go_roundg k1
      case measure => have := t.out; omega
      case rel => exact ⟨(wrap64 (a + 1)), rS, H', ⟨by have := t.out; omega⟩, ⟨by (with_reducible repeat (first | apply Kd.R_alloc | apply Kd.R_drewN | apply Kd.R_drew)); exact HO_8.out⟩, ⟨by (with_reducible repeat (first | apply Kd.R_alloc | apply Kd.R_drewN | apply Kd.R_drew)); exact HO_19.out⟩, ⟨bE⟩⟩
    | clear n
      go_ret2
      first
      | clear y
        exact ⟨_, rE, by first | exact Kd.R_nil _ _ _ _ _ | exact Kd.N_nil _ _ _ _ _ | exact Kd.V_nil _ _ _ _ _ | exact Kd.Q_nil _ _ _ _ _ | exact Kd.S_nil _ _ _ _ _, bE⟩
      | clear z
        exact ⟨_, rE, by (with_reducible repeat (first | apply Kd.R_alloc | apply Kd.R_drewN | apply Kd.R_drew)); exact HO_8.out, bE⟩
def allow_Read.l0 : Nat → List (S28) → List ByteArray → List ByteArray → Int → Int → Option (List ByteArray × List ByteArray × Int × Int)
 | 0, _, _, _, _, _ => none
 | k + 1, l, d, b, g, a => if a < g then (if 0 ≤ a then (if a < (b.length : Int) then ((octet_Lower.f (rdOf ByteArray.empty b a)).bind fun i => (allow_Read.l0 k l d (b.set (a : Int).toNat i) g (wrap64 (a + 1)))) else (none)) else (none)) else ((header_Get.f k l (⟨#[97, 99, 99, 101, 115, 115, 45, 99, 111, 110, 116, 114, 111, 108, 45, 109, 97, 120, 45, 97, 103, 101]⟩ : ByteArray)).bind fun e => ((octet_Trim.f k e.1).bind fun j => ((octet_Digits.f k j).bind fun c => (if c.2 = true then (some (d, b, mn c.1 7200, 0)) else (some (d, b, 5, 0))))))
def allow_Read.f (k : Nat) (l0 : List (S28)) : Option (List ByteArray × List ByteArray × Int × Int) := (allow_tokens.f k l0 (⟨#[97, 99, 99, 101, 115, 115, 45, 99, 111, 110, 116, 114, 111, 108, 45, 97, 108, 108, 111, 119, 45, 109, 101, 116, 104, 111, 100, 115]⟩ : ByteArray)).bind fun b => (if b.2 = true then ((allow_tokens.f k l0 (⟨#[97, 99, 99, 101, 115, 115, 45, 99, 111, 110, 116, 114, 111, 108, 45, 97, 108, 108, 111, 119, 45, 104, 101, 97, 100, 101, 114, 115]⟩ : ByteArray)).bind fun a => (if a.2 = true then (allow_Read.l0 k l0 b.1 a.1 (a.1.length : Int) 0) else (some (([] : List ByteArray), ([] : List ByteArray), 0, 6)))) else (some (([] : List ByteArray), ([] : List ByteArray), 0, 5)))
theorem allow_Read.mono_l : ∀ k, (∀ a b c d e, LeO (allow_Read.l0 k a b c d e) (allow_Read.l0 (k + 1) a b c d e))
 | 0 => fun _ _ _ _ _ r h => by simp [allow_Read.l0] at h
 | k + 1 => by
  have ih0 := allow_Read.mono_l k
  ·intros
   have g := @allow_tokens.mono; have i := @header_Get.mono; have j := @octet_Digits.mono; have l := @octet_Trim.mono; unfold allow_Read.l0
   exact moE
theorem allow_Read.mono : ∀ a k, LeO (allow_Read.f k a) (allow_Read.f (k + 1) a) := by
 intro a k
 have ih0 := allow_Read.mono_l k
 have b := @allow_tokens.mono; have c := @header_Get.mono; have d := @octet_Digits.mono; have e := @octet_Trim.mono; unfold allow_Read.f
 exact moE
theorem allow_Read.calls (k : Nat) (A0 : Option Addr) (c0 : Nat) (l0 : List (S28)) (r1 r2 : List ByteArray) (r3 r4 : Int) (w : World) (hr0 : Kd.C k28 w A0 l0.length l0) (hc0 : l0.length ≤ c0) (h : allow_Read.f k l0 = some (r1, r2, r3, r4)) :
  Calls Tryz.prog 73 #[.slice A0 l0.length c0] w fun e w' => ∃ v0_ v1_ : Value, e = .returned (.tuple #[.agg #[v0_, v1_, .int .u64 r3], .int .i64 r4]) ∧ Kd.R Kd.string 9 w' w.heap.size (fun k_ => some k_ ≠ (v1_ : Value).ownBlock) v0_ r1 ∧ Kd.R Kd.string 9 w' w.heap.size (fun k_ => some k_ ≠ (v0_ : Value).ownBlock) v1_ r2 ∧ Below w.heap.size w w' := by
 have hu51 := Tryz.underlying51; have HR2 := Aside0.mk hr0; have E := Aside0.mk hc0; clear hr0 hc0; have HB := Aside0.mk (Below.refl w.heap.size w); have H := h; clear h; unfold allow_Read.f at H; replace H := bd_ H; obtain ⟨⟨x, t4⟩, A3, H⟩ := H; replace H : (if t4 = true then ((allow_tokens.f k l0 (⟨#[97, 99, 99, 101, 115, 115, 45, 99, 111, 110, 116, 114, 111, 108, 45, 97, 108, 108, 111, 119, 45, 104, 101, 97, 100, 101, 114, 115]⟩ : ByteArray)).bind fun bt3 => (if bt3.2 = true then (allow_Read.l0 k l0 x bt3.1 (bt3.1.length : Int) 0) else (some (([] : List ByteArray), ([] : List ByteArray), 0, 6)))) else (some (([] : List ByteArray), ([] : List ByteArray), 0, 5))) = some (r1, r2, r3, r4) := H; revert H; refine iteB_ (fun c4 H => ?g1p) (fun c4 H => ?g1n)
 case' g1p =>
  subst c4; replace H := bd_ H; obtain ⟨⟨t3, t5⟩, A5, H⟩ := H; replace H : (if t5 = true then (allow_Read.l0 k l0 x t3 (t3.length : Int) 0) else (some (([] : List ByteArray), ([] : List ByteArray), 0, 6))) = some (r1, r2, r3, r4) := H; revert H; refine iteB_ (fun c6 H => ?g2p) (fun c6 H => ?g2n)
  case' g2p =>
   subst c6; have H' := Aside0.mk H; clear H; have M3_0 := trivial
  case' g2n =>
   subst c6
   simp only [Option.some.injEq, Prod.mk.injEq] at H
   obtain ⟨rfl, rfl, rfl, rfl⟩ := H; have M3_1 := trivial
 case' g1n =>
  subst c4
  simp only [Option.some.injEq, Prod.mk.injEq] at H
  obtain ⟨rfl, rfl, rfl, rfl⟩ := H; have M3_1 := trivial
 all_goals
  go_enter Tryz.func73, Tryz.ntmps73; go_wp2_with (first | ((with_reducible refine gate_dst (N := 2) rfl ?_); refine bxE (N := 2) (cs := #[.slice none 0 0, .slice none 0 0, .int .u64 0]) (t := 51) fun d hg w1a2 hbox hb => ?_; obtain ⟨HB', a, GW1a1⟩ := bx_ bE hg hbox hb; have GE1a1 := GW1a1; clear HB hb hbox hg; have HB := HB'; clear HB') | ((with_reducible refine gate_callee (f := 128) rfl ?_); refine gL _ Tryz.func128 _ ((allow_tokens.calls k _ _ l0 (⟨#[97, 99, 99, 101, 115, 115, 45, 99, 111, 110, 116, 114, 111, 108, 45, 97, 108, 108, 111, 119, 45, 109, 101, 116, 104, 111, 100, 115]⟩ : ByteArray) x true _ ?side1 ?side2 A3.out).mono ?_); (case side1 => exact cE); (case side2 => exact E.out); rintro e w2a1 ⟨G, rfl, s, hb⟩; refine ⟨_, rfl, ?_⟩; have n0_ := Aside0.mk (Kd.R_lower s (below_size bE)); have n1_ := kM a hb; have n2_ := bS bE hb; clear a; clear HB; have u := n0_; have a := n1_; have HB := n2_; clear n0_ n1_ n2_; (try clear hb); (try clear W); (try clear hk); (try clear hi); (try clear s)) | ((with_reducible refine gate_callee (f := 128) rfl ?_); refine gL _ Tryz.func128 _ ((allow_tokens.calls k _ _ l0 (⟨#[97, 99, 99, 101, 115, 115, 45, 99, 111, 110, 116, 114, 111, 108, 45, 97, 108, 108, 111, 119, 45, 104, 101, 97, 100, 101, 114, 115]⟩ : ByteArray) t3 true _ ?side1 ?side2 A5.out).mono ?_); (case side1 => exact cE); (case side2 => exact E.out); rintro e w3a1 ⟨v3a2, rfl, s, hb⟩; refine ⟨_, rfl, ?_⟩; have n0_ := Aside0.mk (Kd.R_elder' (rK u.out) (Kd.R_base s) hb); have n1_ := Aside0.mk (Kd.R_lower (Kd.R_new' s (Kd.R_lt (rK u.out))) (below_size bE)); have n2_ := kM a hb; have n3_ := bS bE hb; clear u; clear a; clear HB; have u := n0_; have I := n1_; have a := n2_; have HB := n3_; clear n0_ n1_ n2_ n3_; (try clear hb); (try clear W); (try clear hk); (try clear hi); (try clear s); obtain ⟨i, c, eo3a4⟩ := Kd.R_slice I.out; subst eo3a4) | ((with_reducible refine gate_callee (f := 128) rfl ?_); refine gL _ Tryz.func128 _ ((allow_tokens.calls k _ _ l0 (⟨#[97, 99, 99, 101, 115, 115, 45, 99, 111, 110, 116, 114, 111, 108, 45, 97, 108, 108, 111, 119, 45, 104, 101, 97, 100, 101, 114, 115]⟩ : ByteArray) t3 false _ ?side1 ?side2 A5.out).mono ?_); (case side1 => exact cE); (case side2 => exact E.out); rintro e w10a1 ⟨v10a2, rfl, s, hb⟩; refine ⟨_, rfl, ?_⟩; have n0_ := Aside0.mk (Kd.R_elder' (rK u.out) (Kd.R_base s) hb); have n1_ := Aside0.mk (Kd.R_lower (Kd.R_new' s (Kd.R_lt (rK u.out))) (below_size bE)); have n2_ := kM a hb; have n3_ := bS bE hb; clear u; clear a; clear HB; have u := n0_; have HO10a3 := n1_; have a := n2_; have HB := n3_; clear n0_ n1_ n2_ n3_; (try clear hb); (try clear W); (try clear hk); (try clear hi); (try clear s); obtain ⟨z10a4_0, z10a4_1, z10a4_2, zf10a4_0, zf10a4_1, zf10a4_2⟩ := bk3_ a) | ((with_reducible refine gate_callee (f := 128) rfl ?_); refine gL _ Tryz.func128 _ ((allow_tokens.calls k _ _ l0 (⟨#[97, 99, 99, 101, 115, 115, 45, 99, 111, 110, 116, 114, 111, 108, 45, 97, 108, 108, 111, 119, 45, 109, 101, 116, 104, 111, 100, 115]⟩ : ByteArray) x false _ ?side1 ?side2 A3.out).mono ?_); (case side1 => exact cE); (case side2 => exact E.out); rintro e w11a1 ⟨v11a2, rfl, D, hb⟩; refine ⟨_, rfl, ?_⟩; have n0_ := Aside0.mk (Kd.R_lower D (below_size bE)); have n1_ := kM a hb; have n2_ := bS bE hb; clear a; clear HB; have HO11a4 := n0_; have a := n1_; have HB := n2_; clear n0_ n1_ n2_; (try clear hb); (try clear W); (try clear hk); (try clear hi); (try clear D); obtain ⟨z11a5_0, z11a5_1, z11a5_2, zf11a5_0, zf11a5_1, zf11a5_2⟩ := bk3_ a))
  first
  | clear M3_0
    go_loopg [32] k (fun kq v3s1 w' => ∃ (b : List ByteArray) (j : Int), v3s1 = .int .i64 j ∧ Aside0 (allow_Read.l0 kq l0 x b (t3.length : Int) j = some (r1, r2, r3, r4)) ∧ Aside0 (kq ≤ k) ∧ Aside0 (Kd.R Kd.string 9 w' w.heap.size (fun k_ => some k_ ≠ ((.slice i t3.length c) : Value).ownBlock) G x) ∧ Aside0 (Kd.R Kd.string 9 w' w.heap.size (fun k_ => some k_ ≠ (G : Value).ownBlock) (.slice i t3.length c) b) ∧ Aside0 (w'.heap[d]? = some (.cells #[(.slice none 0 0), (.slice none 0 0), .int .u64 0] 51 (0, 0))) ∧ Aside0 (Below w.heap.size w w'))
    case atStart => exact ⟨(t3), (0), rS, H', ⟨Nat.le_refl _⟩, ⟨rK (Kd.R_mono u.out (fun _ hk => hk.2))⟩, ⟨rK (Kd.R_mono I.out (fun _ hk => hk.2))⟩, ⟨kC a⟩, ⟨bE⟩⟩
    case round =>
     clear H'; (try clear c4); (try clear c6); obtain ⟨b, j, rfl, HA, HK1, HO_17, HO_25, a, HB⟩ := hrel; have hl25_1 := (Kd.R_reads' HO_25.out).1
     rw [hl25_1] at HO_25
     (try simp only [hl25_1]); (try simp only [hl25_1] at a); (try simp only [hl25_1] at HO_17)
     cases gk with
     | zero => exact absurd HA.out (by simp [allow_Read.l0])
     | succ k1 =>
      have H := HA.out; clear HA
      simp only [allow_Read.l0] at H
      revert H; refine iteDP_ (fun c8b0 H => ?g4p) (fun c8 H => ?g4n)
      case' g4p =>
       revert H; refine iteND_ fun c9b0 => iteND_ fun c10b0 H => ?_; replace H := bd_ H; obtain ⟨t6, X, H⟩ := H
       try replace H := bsm_ H
       generalize hy12 : (b.set (j : Int).toNat t6) = y12 at H; have Ny12 := Aside0.mk hy12.symm; clear hy12; have H' := Aside0.mk H; clear H; have p13 : 0 ≤ (j : Int) := of_decide_eq_true mE; have q13 : j < (b.length : Int) := of_decide_eq_true mE; obtain ⟨ad13, e7, Y⟩ := Kd.at_string (Kd.R_reads' HO_25.out).2.2 j p13 q13
       cases e7
       replace p13 := eq_true p13; replace q13 := eq_true q13; have M6_0 := trivial
      case' g4n =>
       have c8b0 := decide_eq_false c8
       try (have Z := c8b0; simp only [hl25_1] at Z)
       clear c8; replace H := bd_ H; obtain ⟨⟨t6, t7⟩, A9, H⟩ := H; replace H : ((octet_Trim.f k1 t6).bind fun t8 => ((octet_Digits.f k1 t8).bind fun bt9 => (if bt9.2 = true then (some (x, b, mn bt9.1 7200, 0)) else (some (x, b, 5, 0))))) = some (r1, r2, r3, r4) := H; replace H := bd_ H; obtain ⟨t8, A10, H⟩ := H; replace H := bd_ H; obtain ⟨⟨t9, t10⟩, X, H⟩ := H; replace H : (if t10 = true then (some (x, b, mn t9 7200, 0)) else (some (x, b, 5, 0))) = some (r1, r2, r3, r4) := H; revert H; refine iteB_ (fun c12 H => ?g5p) (fun c12 H => ?g5n)
       case' g5p =>
        subst c12; generalize y : (mn t9 7200) = z at H; (try rw [y] at A9); (try rw [y] at A10); (try rw [y] at X); (try (have hji13h : z ≤ 7200 := by (rw [← y]; unfold mn; (repeat' split) <;> omega))); (try (have hji13g : z ≤ 64 := by omega)); have hji13_ : (if 7200 < t9 then 7200 else t9) = z := y
        simp only [Option.some.injEq, Prod.mk.injEq] at H
        obtain ⟨rfl, rfl, rfl, rfl⟩ := H; obtain ⟨m, n, J⟩ := Kd.R_slice HO_17.out; subst J; have M6_1 := trivial
       case' g5n =>
        subst c12
        simp only [Option.some.injEq, Prod.mk.injEq] at H
        obtain ⟨rfl, rfl, rfl, rfl⟩ := H; obtain ⟨m, n, J⟩ := Kd.R_slice HO_17.out; subst J; have M6_2 := trivial
      all_goals
       go_wp2_with (first | ((with_reducible refine gate_callee (f := 95) rfl ?_); refine gL _ Tryz.func95 _ ((octet_Lower.calls (rdOf ByteArray.empty b j) _ _ X.out).mono ?_); rintro e w4a1 ⟨rfl, hb⟩; refine ⟨_, rfl, ?_⟩; replace HO_17 := rM HO_17 hb; replace HO_25 := rM HO_25 hb; replace a := kM a hb; replace HB := bS bE hb; (try clear hb); have K : 0 ≤ (j : Int) := of_decide_eq_true mE; have L : (j : Int) < ((b.length : Int) : Int) := of_decide_eq_true mE; obtain ⟨go4a3, co4a3, M, O, gl14, cl14, HG14⟩ := Kd.R_form HO_25.out (by omega); (first | cases M | (injection M with ea_ en_ ec_; (first | subst ea_ | (injection ea_ with ea_; subst ea_)); subst ec_; clear en_)); have GB14 := Aside0.mk O; have GG14 := Aside0.mk HG14; clear O gl14 HG14; (first | simp only [add_plain] at Y | skip); obtain ⟨hx4a2_0, hf14_0⟩ := Kd.R_celln (⟨#[]⟩ : ByteArray) HO_25.out (j : Int) K L; replace K := eq_true K; replace L := eq_true L; obtain ⟨hy4a4_, hz16_⟩ := Kd.R_celln (⟨#[]⟩ : ByteArray) HO_25.out (j : Int) (of_decide_eq_true mE) (of_decide_eq_true mE); have HP16 := Kd.R_putg HO_25.out (j : Int) t6) | ((with_reducible refine gate_store (t := 9) (p := 41) rfl ?_); refine store_event (t := 9) (p := 41) (v := ?vo_w17) (w1 := (w4a1.setCell ⟨go4a3, (j : Int).toNat, none⟩ (.string t6))) ?hg ?ho ?hn ?hr ?_; (case ho => rfl); (case hg => rfl); (case hn => rfl); (case hr => first | (go_simp; done) | (go_simp; rfl)); intro U hw; have hg : w4a1.grownBy U (some go4a3) := (by rw [hw]; exact HP16.2); have hp_ : Kd.R Kd.string 9 U w.heap.size (fun k_ => some k_ ≠ (G : Value).ownBlock) (.slice (some ⟨go4a3, 0, none⟩) b.length c) y12 := (by rw [hw, Ny12.out]; exact HP16.1); clear HP16; have n0_ := Aside0.mk (Kd.R_after (v := (.slice (some ⟨go4a3, 0, none⟩) b.length c)) (v1 := (.slice (some ⟨go4a3, 0, none⟩) b.length c)) (ok := (fun _ => True)) (rK (Kd.R_mono HO_17.out (fun _ hk => ⟨trivial, hk⟩))) hg (.inl rfl)); have n1_ := Aside0.mk (hp_); have n2_ := Aside0.mk (blk_grown (g := d) (o := .cells #[.slice none 0 0, .slice none 0 0, .int .u64 0] 51 (0, 0)) (kC a) hg (Kd.R_ne HO_25.out a.out (by decide))); have n3_ := Aside0.mk ((by rw [hw]; exact below_set (HB.out) GB14.out : Below w.heap.size w U)); clear HO_17; clear HO_25; clear a; clear HB; have HO_17 := n0_; have HO_25 := n1_; have a := n2_; have HB := n3_; clear n0_ n1_ n2_ n3_; clear hg hw hp_) | ((with_reducible refine gate_dst (N := 9) rfl ?_); refine bxE (N := 9) (cs := #[.slice none 0 0, .slice none 0 0, .int .u64 0]) (t := 51) fun r hg w6a2 hbox hb => ?_; have l := Aside0.mk (hbox); have GW6a1 := sE (w := w) hg; have GE6a1 := sE (w := w) hg; have A := neL a hg; have B := neG a hg; replace HO_17 := rM HO_17 hb; replace HO_25 := rM HO_25 hb; replace a := kM a hb; replace HB := bS bE hb; clear hb hbox hg; have hnb6a3 := B.out; have hnc6a3 := A.out; obtain ⟨z6a4_0, z6a4_1, z6a4_2, zf6a4_0, zf6a4_1, zf6a4_2⟩ := bk3_ l) | ((with_reducible refine gate_callee (f := 40) rfl ?_); refine gL _ Tryz.func40 _ ((header_Get.calls k1 _ _ l0 (⟨#[97, 99, 99, 101, 115, 115, 45, 99, 111, 110, 116, 114, 111, 108, 45, 109, 97, 120, 45, 97, 103, 101]⟩ : ByteArray) t6 t7 _ ?side1 ?side2 A9.out).mono ?_); (case side1 => exact Kd.C_below HR2.out bE); (case side2 => exact E.out); rintro e q ⟨rfl, hb⟩; refine ⟨_, rfl, ?_⟩; have n0_ := Aside0.mk (Kd.R_below (by (with_reducible repeat (first | apply Kd.R_alloc | apply Kd.R_drewN | apply Kd.R_drew)); exact (Kd.R_mono (Kd.R_far (p := ⟨r, 2, none⟩) (Kd.R_far (p := ⟨r, 1, none⟩) (Kd.R_far (p := ⟨r, 0, none⟩) (Kd.R_types HO_17.out l.out (by decide)) (fun _ hk => hk.2) (.slice m x.length n)) (fun _ hk => hk.2) (.slice i b.length c)) (fun _ hk => hk.2) (.int .u64 5)) (fun _ h_ => h_.1))) hb); have n1_ := Aside0.mk (Kd.R_below (by (with_reducible repeat (first | apply Kd.R_alloc | apply Kd.R_drewN | apply Kd.R_drew)); exact (Kd.R_mono (Kd.R_far (p := ⟨r, 2, none⟩) (Kd.R_far (p := ⟨r, 1, none⟩) (Kd.R_far (p := ⟨r, 0, none⟩) (Kd.R_types HO_25.out l.out (by decide)) (fun _ hk => hk.2) (.slice m x.length n)) (fun _ hk => hk.2) (.slice i b.length c)) (fun _ hk => hk.2) (.int .u64 5)) (fun _ h_ => h_.1))) hb); have n2_ := kF a hb; have n3_ := Aside0.mk (blk_below (g := r) (o := .cells #[.slice m x.length n, .slice i b.length c, .int .u64 5] 51 (0, 0)) (kT) hb); have n4_ := bS bE hb; clear HO_17; clear HO_25; clear a; clear l; clear HB; have HO_17 := n0_; have HO_25 := n1_; have a := n2_; have l := n3_; have HB := n4_; clear n0_ n1_ n2_ n3_ n4_; (try clear hb); (try clear W); (try clear hk); (try clear hi)) | ((with_reducible refine gate_callee (f := 77) rfl ?_); refine gL _ Tryz.func77 _ ((octet_Trim.calls k1 t6 _ _ A10.out).mono ?_); rintro e w' ⟨rfl, ⟨nd, rfl⟩⟩; refine ⟨_, rfl, ?_⟩; (try (rw [drewN_self q]; generalize hq_ : World.drewN q _ = q; have n0_ : Aside0 (Kd.R Kd.string 9 q w.heap.size (fun k_ => some k_ ≠ (.slice i b.length c : Value).ownBlock) (.slice m x.length n) x) := ⟨by rw [← hq_]; exact (rK HO_17.out)⟩; have n1_ : Aside0 (Kd.R Kd.string 9 q w.heap.size (fun k_ => some k_ ≠ (.slice m x.length n : Value).ownBlock) (.slice i b.length c) b) := ⟨by rw [← hq_]; exact (rK HO_25.out)⟩; have n2_ : Aside0 (q.heap[d]? = some (.cells #[.slice none 0 0, .slice none 0 0, .int .u64 0] 51 (0, 0))) := ⟨by rw [← hq_]; exact (kC a)⟩; have n3_ : Aside0 (q.heap[r]? = some (.cells #[.slice m x.length n, .slice i b.length c, .int .u64 5] 51 (0, 0))) := ⟨by rw [← hq_]; exact (kC l)⟩; have n4_ : Aside0 (Below w.heap.size w q) := ⟨by rw [← hq_]; exact bE⟩; clear HO_17 HO_25 a l HB hq_; have HO_17 := n0_; have HO_25 := n1_; have a := n2_; have l := n3_; have HB := n4_; clear n0_ n1_ n2_ n3_ n4_))) | ((with_reducible refine gate_callee (f := 129) rfl ?_); refine gL _ Tryz.func129 _ ((octet_Digits.calls k1 t8 t9 _ _ X.out).mono ?_); rintro e w' ⟨rfl, ⟨nd, rfl⟩⟩; refine ⟨_, rfl, ?_⟩; (try (rw [drewN_self q]; generalize hq_ : World.drewN q _ = q; have n0_ : Aside0 (Kd.R Kd.string 9 q w.heap.size (fun k_ => some k_ ≠ (.slice i b.length c : Value).ownBlock) (.slice m x.length n) x) := ⟨by rw [← hq_]; exact (rK HO_17.out)⟩; have n1_ : Aside0 (Kd.R Kd.string 9 q w.heap.size (fun k_ => some k_ ≠ (.slice m x.length n : Value).ownBlock) (.slice i b.length c) b) := ⟨by rw [← hq_]; exact (rK HO_25.out)⟩; have n2_ : Aside0 (q.heap[d]? = some (.cells #[.slice none 0 0, .slice none 0 0, .int .u64 0] 51 (0, 0))) := ⟨by rw [← hq_]; exact (kC a)⟩; have n3_ : Aside0 (q.heap[r]? = some (.cells #[.slice m x.length n, .slice i b.length c, .int .u64 5] 51 (0, 0))) := ⟨by rw [← hq_]; exact (kC l)⟩; have n4_ : Aside0 (Below w.heap.size w q) := ⟨by rw [← hq_]; exact bE⟩; clear HO_17 HO_25 a l HB hq_; have HO_17 := n0_; have HO_25 := n1_; have a := n2_; have l := n3_; have HB := n4_; clear n0_ n1_ n2_ n3_ n4_)); obtain ⟨z9a1_0, z9a1_1, z9a1_2, zf9a1_0, zf9a1_1, zf9a1_2⟩ := bk3_ l; obtain ⟨z9a2_0, z9a2_1, z9a2_2, zf9a2_0, zf9a2_1, zf9a2_2⟩ := bk3_ a))
       first
       | clear M6_0
         (try simp only [← hl25_1])
         go_roundg k1
         case measure => have := HK1.out; omega
         case rel => exact ⟨(y12), (wrap64 (j + 1)), rS, H', ⟨by have := HK1.out; omega⟩, ⟨by (try simp only [hl25_1]); (with_reducible repeat (first | apply Kd.R_alloc | apply Kd.R_drewN | apply Kd.R_drew)); exact Kd.R_mono HO_17.out (fun _ hk => hk.2)⟩, ⟨by (try simp only [hl25_1]); (with_reducible repeat (first | apply Kd.R_alloc | apply Kd.R_drewN | apply Kd.R_drew)); exact HO_25.out⟩, ⟨by (try simp only [hl25_1]); (with_reducible repeat (first | refine kN ?_ _ | refine kD ?_ | refine kA ?_ _)); exact a.out⟩, ⟨bE⟩⟩
       | clear M6_1
         refine bodyPost_ret (results_ct rfl _ _ d 51 #[.slice m x.length n, .slice i b.length c, .int .u64 z] (0, 0) _ rfl (kT) Tryz.underlying51 rfl (by kernel_rfl)) rfl ?_; exact ⟨_, _, by first | rfl | (simp [errW_none, errW_some] <;> rfl) | (simp only [← y]; first | rfl | (simp [errW_none, errW_some] <;> rfl)) | (simp [*, errW_none, errW_some] <;> rfl), by (with_reducible repeat (first | apply Kd.R_alloc | apply Kd.R_drewN | apply Kd.R_drew)); exact Kd.R_mono (Kd.R_far (p := ⟨d, 2, none⟩) (Kd.R_far (p := ⟨d, 1, none⟩) (Kd.R_far (p := ⟨d, 0, none⟩) (Kd.R_far (p := ⟨r, 2, none⟩) (Kd.R_types (Kd.R_types HO_17.out l.out (by decide)) a.out (by decide)) (fun _ hk => hk.1.2) (.int .u64 z)) (fun _ hk => hk.2) (.slice m x.length n)) (fun _ hk => hk.2) (.slice i b.length c)) (fun _ hk => hk.2) (.int .u64 z)) (fun _ hk => hk.1.1), by (with_reducible repeat (first | apply Kd.R_alloc | apply Kd.R_drewN | apply Kd.R_drew)); exact Kd.R_mono (Kd.R_far (p := ⟨d, 2, none⟩) (Kd.R_far (p := ⟨d, 1, none⟩) (Kd.R_far (p := ⟨d, 0, none⟩) (Kd.R_far (p := ⟨r, 2, none⟩) (Kd.R_types (Kd.R_types HO_25.out l.out (by decide)) a.out (by decide)) (fun _ hk => hk.1.2) (.int .u64 z)) (fun _ hk => hk.2) (.slice m x.length n)) (fun _ hk => hk.2) (.slice i b.length c)) (fun _ hk => hk.2) (.int .u64 z)) (fun _ hk => hk.1.1), bE⟩
       | clear M6_2
         refine bodyPost_ret (results_ct rfl _ _ d 51 #[.slice m x.length n, .slice i b.length c, .int .u64 5] (0, 0) _ rfl (kT) Tryz.underlying51 rfl (by kernel_rfl)) rfl ?_; exact ⟨_, _, rE, by (with_reducible repeat (first | apply Kd.R_alloc | apply Kd.R_drewN | apply Kd.R_drew)); exact Kd.R_mono (Kd.R_far (p := ⟨d, 2, none⟩) (Kd.R_far (p := ⟨d, 1, none⟩) (Kd.R_far (p := ⟨d, 0, none⟩) (Kd.R_types HO_17.out a.out (by decide)) (fun _ hk => hk.2) (.slice m x.length n)) (fun _ hk => hk.2) (.slice i b.length c)) (fun _ hk => hk.2) (.int .u64 5)) (fun _ hk => hk.1), by (with_reducible repeat (first | apply Kd.R_alloc | apply Kd.R_drewN | apply Kd.R_drew)); exact Kd.R_mono (Kd.R_far (p := ⟨d, 2, none⟩) (Kd.R_far (p := ⟨d, 1, none⟩) (Kd.R_far (p := ⟨d, 0, none⟩) (Kd.R_types HO_25.out a.out (by decide)) (fun _ hk => hk.2) (.slice m x.length n)) (fun _ hk => hk.2) (.slice i b.length c)) (fun _ hk => hk.2) (.int .u64 5)) (fun _ hk => hk.1), bE⟩
  | clear M3_1
    refine bodyPost_ret (results_ct rfl _ _ d 51 #[.slice none 0 0, .slice none 0 0, .int .u64 0] (0, 0) _ rfl (kT) Tryz.underlying51 rfl (by kernel_rfl)) rfl ?_; exact ⟨_, _, rE, by first | exact Kd.R_nil _ _ _ _ _ | exact Kd.N_nil _ _ _ _ _ | exact Kd.V_nil _ _ _ _ _ | exact Kd.Q_nil _ _ _ _ _ | exact Kd.S_nil _ _ _ _ _, by first | exact Kd.R_nil _ _ _ _ _ | exact Kd.N_nil _ _ _ _ _ | exact Kd.V_nil _ _ _ _ _ | exact Kd.Q_nil _ _ _ _ _ | exact Kd.S_nil _ _ _ _ _, bE⟩
def allow_Has.f (k : Nat) (a e : List ByteArray) (g : Int) (i : ByteArray) (j : Bool) : Option (Bool) := (method_Safe.f k i).bind fun b => (if b = true then (some true) else ((slices_Contains_string_string.f a i).bind fun c => (if c = true then (some true) else (if j = true then (some false) else ((slices_Contains_string_string.f a (⟨#[42]⟩ : ByteArray)).bind fun d => (some d))))))
theorem allow_Has.mono : ∀ a b c d e k, LeO (allow_Has.f k a b c d e) (allow_Has.f (k + 1) a b c d e) := by
 intro a b c d e k
 have g := @method_Safe.mono; unfold allow_Has.f
 exact moE
theorem allow_Has.calls (k : Nat) (g : Option Addr) (i : Nat) (a : List ByteArray) (j : Option Addr) (l : Nat) (b : List ByteArray) (m : Int) (v : ByteArray) (K r : Bool) (w : World) (n : Kd.C Kd.string w g a.length a) (o : a.length ≤ i) (p : Kd.C Kd.string w j b.length b) (q : b.length ≤ l) (h : allow_Has.f k a b m v K = some r) :
  Calls Tryz.prog 74 #[.agg #[.slice g a.length i, .slice j b.length l, .int .u64 m], .string v, .bool K] w fun e w' => e = .returned (.bool r) ∧ Below w.heap.size w w' := by
 have L := Tryz.underlying51; have s := Aside0.mk n; have c := Aside0.mk o; clear n o; have E := Aside0.mk p; have G := Aside0.mk q; clear p q; have HB := Aside0.mk (Below.refl w.heap.size w); have H := h; clear h; unfold allow_Has.f at H; replace H := bd_ H; obtain ⟨Z, W, H⟩ := H; revert H; refine iteB_ (fun c3 H => ?g1p) (fun c3 H => ?g1n)
 case' g1p =>
  subst c3; obtain rfl := si_ H
 case' g1n =>
  subst c3; replace H := bd_ H; obtain ⟨t2, M, H⟩ := H; revert H; refine iteB_ (fun c5 H => ?g2p) (fun c5 H => ?g2n)
  case' g2p =>
   subst c5; obtain rfl := si_ H
  case' g2n =>
   subst c5; revert H; refine iteB_ (fun c6 H => ?g3p) (fun c6 H => ?g3n)
   case' g3p =>
    subst c6; obtain rfl := si_ H
   case' g3n =>
    subst c6; replace H := bd_ H; obtain ⟨X, Y, H⟩ := H; obtain rfl := si_ H
 all_goals
  go_enter Tryz.func74, Tryz.ntmps74; go_wp2_with (first | ((with_reducible refine gate_dst (N := 3) rfl ?_); refine bxE (N := 3) (cs := #[.slice g a.length i, .slice j b.length l, .int .u64 m]) (t := 51) fun I hg O hbox hb => ?_; obtain ⟨HB', d, u⟩ := bx_ bE hg hbox hb; have J := u; clear HB hb hbox hg; have HB := HB'; clear HB') | ((with_reducible refine gate_callee (f := 38) rfl ?_); refine gL _ Tryz.func38 _ ((method_Safe.calls k v _ _ W.out).mono ?_); rintro e U ⟨rfl, hb⟩; refine ⟨_, rfl, ?_⟩; replace d := kM d hb; replace HB := bS bE hb; (try clear hb); obtain ⟨A, B, D, x, y, z⟩ := bk3_ d) | (go_at_call 130; (with_reducible refine (slices_Contains_string_string.calls _ _ a v true _ ?side1 ?side2 M.out).mono ?_); (case side1 => exact cE); (case side2 => exact c.out); rintro e w' ⟨rfl, ⟨nd, rfl⟩⟩) | (go_at_call 130; (with_reducible refine (slices_Contains_string_string.calls _ _ a v false _ ?side1 ?side2 M.out).mono ?_); (case side1 => exact cE); (case side2 => exact c.out); rintro e w' ⟨rfl, ⟨nd, rfl⟩⟩) | (go_at_call 130; (with_reducible refine (slices_Contains_string_string.calls _ _ a (⟨#[42]⟩ : ByteArray) X _ ?side1 ?side2 Y.out).mono ?_); (case side1 => repeat (first | exact (Kd.C_below s.out bE) | (with_reducible refine Kd.C_alloc ?_ _) | (with_reducible refine Kd.C_drewN ?_ _) | (with_reducible refine Kd.C_drew ?_))); (case side2 => exact c.out); rintro e w' ⟨rfl, ⟨nd, rfl⟩⟩)); go_ret; exact ⟨rE, bE⟩
def allow_Covers.f (e a : List ByteArray) (g : Int) (i : ByteArray) (j : Bool) : Option (Bool) := (octet_Lower.f i).bind fun b => ((slices_Contains_string_string.f a b).bind fun c => (if c = true then (some true) else (if j = true then (some false) else (if b.toList = ([97, 117, 116, 104, 111, 114, 105, 122, 97, 116, 105, 111, 110] : List UInt8) then (some false) else ((slices_Contains_string_string.f a (⟨#[42]⟩ : ByteArray)).bind fun d => (some d))))))
theorem allow_Covers.calls (g : Option Addr) (i : Nat) (b : List ByteArray) (j : Option Addr) (l : Nat) (a : List ByteArray) (m : Int) (G : ByteArray) (M r : Bool) (w : World) (n : Kd.C Kd.string w g b.length b) (o : b.length ≤ i) (p : Kd.C Kd.string w j a.length a) (q : a.length ≤ l) (h : allow_Covers.f b a m G M = some r) :
  Calls Tryz.prog 75 #[.agg #[.slice g b.length i, .slice j a.length l, .int .u64 m], .string G, .bool M] w fun e w' => e = .returned (.bool r) ∧ Below w.heap.size w w' := by
 have O := Tryz.underlying51; have I := Aside0.mk n; have J := Aside0.mk o; clear n o; have s := Aside0.mk p; have c := Aside0.mk q; clear p q; have HB := Aside0.mk (Below.refl w.heap.size w); have H := h; clear h; unfold allow_Covers.f at H; replace H := bd_ H; obtain ⟨U, Z, H⟩ := H; replace H := bd_ H; obtain ⟨t2, W, H⟩ := H; revert H; refine iteB_ (fun c4 H => ?g1p) (fun c4 H => ?g1n)
 case' g1p =>
  subst c4; obtain rfl := si_ H
 case' g1n =>
  subst c4; revert H; refine iteB_ (fun c5 H => ?g2p) (fun c5 H => ?g2n)
  case' g2p =>
   subst c5; obtain rfl := si_ H
  case' g2n =>
   subst c5; revert H; refine iteEF_ (fun v x H => ?g3p) (fun c6 v x H => ?g3n)
   case' g3p =>
    obtain rfl := si_ H
   case' g3n =>
    replace H := bd_ H; obtain ⟨t3, A7, H⟩ := H; obtain rfl := si_ H
 all_goals
  go_enter Tryz.func75, Tryz.ntmps75; go_wp2_with (first | ((with_reducible refine gate_dst (N := 3) rfl ?_); refine bxE (N := 3) (cs := #[.slice g b.length i, .slice j a.length l, .int .u64 m]) (t := 51) fun K hg X hbox hb => ?_; obtain ⟨HB', d, u⟩ := bx_ bE hg hbox hb; have L := u; clear HB hb hbox hg; have HB := HB'; clear HB') | ((with_reducible refine gate_callee (f := 95) rfl ?_); refine gL _ Tryz.func95 _ ((octet_Lower.calls G _ _ Z.out).mono ?_); rintro e Y ⟨rfl, hb⟩; refine ⟨_, rfl, ?_⟩; replace d := kM d hb; replace HB := bS bE hb; (try clear hb); obtain ⟨B, D, E, y, z, A⟩ := bk3_ d) | ((with_reducible refine gate_callee (f := 130) rfl ?_); refine gL _ Tryz.func130 _ ((slices_Contains_string_string.calls _ _ a U true _ ?side1 ?side2 W.out).mono ?_); (case side1 => exact cE); (case side2 => exact c.out); rintro e w' ⟨rfl, ⟨nd, rfl⟩⟩; refine ⟨_, rfl, ?_⟩) | ((with_reducible refine gate_callee (f := 130) rfl ?_); refine gL _ Tryz.func130 _ ((slices_Contains_string_string.calls _ _ a U false _ ?side1 ?side2 W.out).mono ?_); (case side1 => exact cE); (case side2 => exact c.out); rintro e w' ⟨rfl, ⟨nd, rfl⟩⟩; refine ⟨_, rfl, ?_⟩) | (go_at_call 130; (with_reducible refine (slices_Contains_string_string.calls _ _ a (⟨#[42]⟩ : ByteArray) t3 _ ?side1 ?side2 A7.out).mono ?_); (case side1 => repeat (first | exact (Kd.C_below s.out bE) | (with_reducible refine Kd.C_alloc ?_ _) | (with_reducible refine Kd.C_drewN ?_ _) | (with_reducible refine Kd.C_drew ?_))); (case side2 => exact c.out); rintro e w' ⟨rfl, ⟨nd, rfl⟩⟩)); go_ret; exact ⟨rE, bE⟩
end Go.Proofs.YtfmajangcbgooaaGreatDoor.Pr

