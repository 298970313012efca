import Derived.Test.YtfmajangcbgooaaGreatDoorPr0
import Derived.Test.YtfmajangcbgooaaGreatDoorK0
import Derived.Test.YtfmajangcbgooaaGreatDoorPr3
import Derived.Test.YtfmajangcbgooaaGreatDoorG1
import Derived.Test.YtfmajangcbgooaaGreatDoorG4
import Derived.Test.YtfmajangcbgooaaGreatDoorG5
namespace Go.Proofs.YtfmajangcbgooaaGreatDoor.Pr
open Go.RowKit Go.Proofs.YtfmajangcbgooaaGreatDoorW.PrintWords Go.Proofs.YtfmajangcbgooaaGreatDoorW.PrintLast Go.Proofs.YtfmajangcbgooaaGreatDoorW.PrintMore
attribute [local go_sem] max2_int min2_int max_two min_two max_three min_three max_four min_four
set_option linter.unusedVariables false
set_option maxHeartbeats 64000000
set_option maxRecDepth 100000
set_option linter.unusedSimpArgs false
def origin_isHost.l0 : Nat → List ByteArray → Int → Int → Option (Bool)
 | 0, _, _, _ => none
 | k + 1, d, b, a => if a < b then (if 0 ≤ a then (if a < (d.length : Int) then ((origin_isLabel.f k (rdOf ByteArray.empty d a)).bind fun c => (if c = true then (origin_isHost.l0 k d b (wrap64 (a + 1))) else (some false))) else (none)) else (none)) else (some true)
def origin_isHost.f (k : Nat) (b : ByteArray) : Option (Bool) := if (b.size : Int) > 253 then (some false) else ((strings_Split.f b (⟨#[46]⟩ : ByteArray)).bind fun a => (origin_isHost.l0 k a (a.length : Int) 0))
theorem origin_isHost.mono_l : ∀ k, (∀ a b c, LeO (origin_isHost.l0 k a b c) (origin_isHost.l0 (k + 1) a b c))
 | 0 => fun _ _ _ r h => by simp [origin_isHost.l0] at h
 | k + 1 => by
  have ih0 := origin_isHost.mono_l k
  ·intros
   have d := @origin_isLabel.mono; unfold origin_isHost.l0
   exact moE
theorem origin_isHost.mono : ∀ a k, LeO (origin_isHost.f k a) (origin_isHost.f (k + 1) a) := by
 intro a k
 have ih0 := origin_isHost.mono_l k
 have b := @origin_isLabel.mono; unfold origin_isHost.f
 exact moE
theorem origin_isHost.calls (k : Nat) (j : ByteArray) (r : Bool) (w : World) (h : origin_isHost.f k j = some r) :
  Calls Tryz.prog 145 #[.string j] w fun e w' => e = .returned (.bool r) ∧ Below w.heap.size w w' := by
 have HB := Aside0.mk (Below.refl w.heap.size w); have H := h; clear h; unfold origin_isHost.f at H; revert H; refine itePP_ (fun t H => ?g1p) (fun t H => ?g1n)
 case' g1p =>
  have d : decide (253 < (j.size : Int)) = true := decide_eq_true t; have g : decide (253 < j.size) = true := decide_eq_true (by omega); clear t; obtain rfl := si_ H; have u := trivial
 case' g1n =>
  have d : decide (253 < (j.size : Int)) = false := decide_eq_false t; have g : decide (253 < j.size) = false := decide_eq_false (by omega); clear t; replace H := bd_ H; obtain ⟨l, L, H⟩ := H; have H' := Aside0.mk H; clear H; have v := trivial
 all_goals
  go_enter Tryz.func145, Tryz.ntmps145; go_wp2_with (first | ((with_reducible refine gate_callee (f := 142) rfl ?_); refine gL _ Tryz.func142 _ ((strings_Split.calls j (⟨#[46]⟩ : ByteArray) _ _ L.out).mono ?_); rintro e G ⟨I, rfl, b, hb⟩; refine ⟨_, rfl, ?_⟩; have n0_ := Aside0.mk (Kd.R_lower b (below_size bE)); have n1_ := bS bE hb; clear HB; have c := n0_; have HB := n1_; clear n0_ n1_; (try clear hb); (try clear M); (try clear hk); (try clear hi); (try clear b); obtain ⟨m, n, o⟩ := Kd.R_slice c.out; subst o))
  first
  | clear u
    go_ret; exact ⟨rE, bE⟩
  | clear v
    go_loopg [11] k (fun kq x w' => ∃ (a : Int), x = .int .i64 a ∧ Aside0 (origin_isHost.l0 kq l (l.length : Int) a = some r) ∧ Aside0 (kq ≤ k) ∧ Aside0 (Kd.R Kd.string 9 w' w.heap.size (fun _ => True) (.slice m l.length n) l) ∧ Aside0 (Below w.heap.size w w'))
    case atStart => exact ⟨(0), rS, H', ⟨Nat.le_refl _⟩, ⟨by (with_reducible repeat (first | apply Kd.R_alloc | apply Kd.R_drewN | apply Kd.R_drew)); exact c.out⟩, ⟨bE⟩⟩
    case round =>
     clear H'; (try clear t); (try clear d); (try clear g); obtain ⟨a, rfl, HA, y, HO_9, HB⟩ := hrel
     cases gk with
     | zero => exact absurd HA.out (by simp [origin_isHost.l0])
     | succ k1 =>
      have H := HA.out; clear HA
      simp only [origin_isHost.l0] at H
      revert H; refine iteDD_ (fun z H => ?g3p) (fun z H => ?g3n)
      case' g3p =>
       revert H; refine iteND_ fun J => iteND_ fun K H => ?_; replace H := bd_ H; obtain ⟨U, O, H⟩ := H; revert H; refine iteB_ (fun B H => ?g4p) (fun B H => ?g4n)
       case' g4p =>
        subst B; have H' := Aside0.mk H; clear H; have p : 0 ≤ (a : Int) := of_decide_eq_true mE; have q : a < (l.length : Int) := of_decide_eq_true mE; obtain ⟨D, E, s⟩ := Kd.at_string (Kd.R_reads' HO_9.out).2.2 a p q
        cases E
        replace p := eq_true p; replace q := eq_true q; have A := trivial
       case' g4n =>
        subst B; obtain rfl := si_ H; have p : 0 ≤ (a : Int) := of_decide_eq_true mE; have q : a < (l.length : Int) := of_decide_eq_true mE; obtain ⟨D, E, s⟩ := Kd.at_string (Kd.R_reads' HO_9.out).2.2 a p q
        cases E
        replace p := eq_true p; replace q := eq_true q; have i := trivial
      case' g3n =>
       obtain rfl := si_ H; have i := trivial
      all_goals
       go_wp2_with (first | ((with_reducible refine gate_callee (f := 182) rfl ?_); refine gL _ Tryz.func182 _ ((origin_isLabel.calls k1 (rdOf ByteArray.empty l a) _ _ O.out).mono ?_); rintro e w' ⟨rfl, ⟨nd, rfl⟩⟩; refine ⟨_, rfl, ?_⟩))
       first
       | clear A
         go_roundg k1
         case measure => have := y.out; omega
         case rel => exact ⟨(wrap64 (a + 1)), rS, H', ⟨by have := y.out; omega⟩, ⟨by (with_reducible repeat (first | apply Kd.R_alloc | apply Kd.R_drewN | apply Kd.R_drew)); exact HO_9.out⟩, ⟨bE⟩⟩
       | clear i
         go_ret; exact ⟨rE, bE⟩
def origin_Check.f (k : Nat) (b c : ByteArray) (a : Int) : Option (Bool) := (origin_Default.f b).bind fun d => (if d = 0 then (some false) else ((origin_isHost.f k c).bind fun e => (if e = true then (if a ≥ 1 then (some (decide (a ≤ 65535))) else (some false)) else (some false))))
theorem origin_Check.mono : ∀ a b c k, LeO (origin_Check.f k a b c) (origin_Check.f (k + 1) a b c) := by
 intro a b c k
 have d := @origin_isHost.mono; unfold origin_Check.f
 exact moE
theorem origin_Check.calls (k : Nat) (b c : ByteArray) (d : Int) (r : Bool) (w : World) (h : origin_Check.f k b c d = some r) :
  Calls Tryz.prog 98 #[.agg #[.string b, .string c, .int .i64 d]] w fun e w' => e = .returned (.bool r) ∧ Below w.heap.size w w' := by
 have G := Tryz.underlying70; have HB := Aside0.mk (Below.refl w.heap.size w); have H := h; clear h; unfold origin_Check.f at H; replace H := bd_ H; obtain ⟨M, K, H⟩ := H; revert H; refine iteEF_ (fun i j H => ?g1p) (fun O i j H => ?g1n)
 case' g1p =>
  obtain rfl := si_ H
 case' g1n =>
  replace H := bd_ H; obtain ⟨U, L, H⟩ := H; revert H; refine iteB_ (fun B H => ?g2p) (fun B H => ?g2n)
  case' g2p =>
   subst B; revert H; refine iteJJ_ (fun l H => ?g3p) (fun l H => ?g3n)
   case' g3p =>
    obtain rfl := si_ H
   case' g3n =>
    obtain rfl := si_ H
  case' g2n =>
   subst B; obtain rfl := si_ H
 all_goals
  go_enter Tryz.func98, Tryz.ntmps98; go_wp2_with (first | ((with_reducible refine gate_dst (N := 1) rfl ?_); refine bxE (N := 1) (cs := #[.string b, .string c, .int .i64 d]) (t := 70) fun D hg I hbox hb => ?_; obtain ⟨HB', a, g⟩ := bx_ bE hg hbox hb; have E := g; clear HB hb hbox hg; have HB := HB'; clear HB'; obtain ⟨u, v, x, m, n, o⟩ := bk3_ a) | ((with_reducible refine gate_callee (f := 96) rfl ?_); refine gL _ Tryz.func96 _ ((origin_Default.calls b _ _ K.out).mono ?_); rintro e w' ⟨rfl, ⟨nd, rfl⟩⟩; refine ⟨_, rfl, ?_⟩) | (go_at_call 145; (with_reducible refine (origin_isHost.calls k c _ _ L.out).mono ?_); rintro e J ⟨rfl, hb⟩; replace a := kM a hb; replace HB := bS bE hb; (try clear hb); obtain ⟨y, z, A, p, q, s⟩ := bk3_ a)); go_ret; exact ⟨rE, bE⟩
def origin_Parse.f (k : Nat) (j : ByteArray) : Option (ByteArray × ByteArray × Int × Int) := if (j.size : Int) > 512 then (some ((⟨#[]⟩ : ByteArray), (⟨#[]⟩ : ByteArray), 0, 4)) else ((octet_Lower.f j).bind fun e => ((strings_Cut.f e (⟨#[58, 47, 47]⟩ : ByteArray)).bind fun a => (if a.2.2 = true then ((strings_Cut.f a.2.1 (⟨#[58]⟩ : ByteArray)).bind fun b => ((origin_Default.f a.1).bind fun c => (if b.2.2 = true then ((origin_port.f k b.2.1).bind fun d => ((origin_Check.f k a.1 b.1 d).bind fun g => (if g = true then (some (a.1, b.1, d, 0)) else (some ((⟨#[]⟩ : ByteArray), (⟨#[]⟩ : ByteArray), 0, 3))))) else ((origin_Check.f k a.1 b.1 c).bind fun i => (if i = true then (some (a.1, b.1, c, 0)) else (some ((⟨#[]⟩ : ByteArray), (⟨#[]⟩ : ByteArray), 0, 3))))))) else (some ((⟨#[]⟩ : ByteArray), (⟨#[]⟩ : ByteArray), 0, 3)))))
theorem origin_Parse.mono : ∀ a k, LeO (origin_Parse.f k a) (origin_Parse.f (k + 1) a) := by
 intro a k
 have b := @origin_Check.mono; have c := @origin_port.mono; unfold origin_Parse.f
 exact moE
theorem origin_Parse.calls (k : Nat) (L r1 r2 : ByteArray) (r3 r4 : Int) (w : World) (hM_ : Aside0 (LaidW w)) (h : origin_Parse.f k L = some (r1, r2, r3, r4)) :
  Calls Tryz.prog 46 #[.string L] w fun e w' => e = .returned (.tuple #[.agg #[.string r1, .string r2, .int .i64 r3], .int .i64 r4]) ∧ Below w.heap.size w w' := by
 have hu70 := Tryz.underlying70; have HB := Aside0.mk (Below.refl w.heap.size w); have H := h; clear h; unfold origin_Parse.f at H; revert H; refine itePP_ (fun Y H => ?g1p) (fun Y H => ?g1n)
 case' g1p =>
  have Z : decide (512 < (L.size : Int)) = true := decide_eq_true Y; have a1 : decide (512 < L.size) = true := decide_eq_true (by omega); clear Y
  simp only [Option.some.injEq, Prod.mk.injEq] at H
  obtain ⟨rfl, rfl, rfl, rfl⟩ := H; have l := trivial
 case' g1n =>
  have Z : decide (512 < (L.size : Int)) = false := decide_eq_false Y; have a1 : decide (512 < L.size) = false := decide_eq_false (by omega); clear Y; replace H := bd_ H; obtain ⟨t1, A2, H⟩ := H; replace H := bd_ H; obtain ⟨⟨i, t8, t9⟩, A3, H⟩ := H; replace H : (if t9 = true then ((strings_Cut.f t8 (⟨#[58]⟩ : ByteArray)).bind fun q => ((origin_Default.f i).bind fun r => (if q.2.2 = true then ((origin_port.f k q.2.1).bind fun s => ((origin_Check.f k i q.1 s).bind fun t6 => (if t6 = true then (some (i, q.1, s, 0)) else (some ((⟨#[]⟩ : ByteArray), (⟨#[]⟩ : ByteArray), 0, 3))))) else ((origin_Check.f k i q.1 r).bind fun t7 => (if t7 = true then (some (i, q.1, r, 0)) else (some ((⟨#[]⟩ : ByteArray), (⟨#[]⟩ : ByteArray), 0, 3))))))) else (some ((⟨#[]⟩ : ByteArray), (⟨#[]⟩ : ByteArray), 0, 3))) = some (r1, r2, r3, r4) := H; revert H; refine iteB_ (fun c4 H => ?g2p) (fun c4 H => ?g2n)
  case' g2p =>
   subst c4; replace H := bd_ H; obtain ⟨⟨m, M, t11⟩, A5, H⟩ := H; replace H : ((origin_Default.f i).bind fun r => (if t11 = true then ((origin_port.f k M).bind fun s => ((origin_Check.f k i m s).bind fun t6 => (if t6 = true then (some (i, m, s, 0)) else (some ((⟨#[]⟩ : ByteArray), (⟨#[]⟩ : ByteArray), 0, 3))))) else ((origin_Check.f k i m r).bind fun t7 => (if t7 = true then (some (i, m, r, 0)) else (some ((⟨#[]⟩ : ByteArray), (⟨#[]⟩ : ByteArray), 0, 3)))))) = some (r1, r2, r3, r4) := H; replace H := bd_ H; obtain ⟨r, A6, H⟩ := H; revert H; refine iteB_ (fun c7 H => ?g3p) (fun c7 H => ?g3n)
   case' g3p =>
    subst c7; replace H := bd_ H; obtain ⟨s, A8, H⟩ := H; replace H := bd_ H; obtain ⟨t6, A9, H⟩ := H; revert H; refine iteB_ (fun O H => ?g4p) (fun O H => ?g4n)
    case' g4p =>
     subst O
     simp only [Option.some.injEq, Prod.mk.injEq] at H
     obtain ⟨rfl, rfl, rfl, rfl⟩ := H; have G6 := trivial; have U := trivial
    case' g4n =>
     subst O
     simp only [Option.some.injEq, Prod.mk.injEq] at H
     obtain ⟨rfl, rfl, rfl, rfl⟩ := H; have G7 := trivial; have l := trivial
   case' g3n =>
    subst c7; replace H := bd_ H; obtain ⟨t7, A8, H⟩ := H; revert H; refine iteB_ (fun c9 H => ?g5p) (fun c9 H => ?g5n)
    case' g5p =>
     subst c9
     simp only [Option.some.injEq, Prod.mk.injEq] at H
     obtain ⟨rfl, rfl, rfl, rfl⟩ := H; have G8 := trivial; have W := trivial
    case' g5n =>
     subst c9
     simp only [Option.some.injEq, Prod.mk.injEq] at H
     obtain ⟨rfl, rfl, rfl, rfl⟩ := H; have G9 := trivial; have l := trivial
  case' g2n =>
   subst c4
   simp only [Option.some.injEq, Prod.mk.injEq] at H
   obtain ⟨rfl, rfl, rfl, rfl⟩ := H; have l := trivial
 all_goals
  go_enter Tryz.func46, Tryz.ntmps46; go_wp2_with (first | ((with_reducible refine gate_dst (N := 2) rfl ?_); refine bxE (N := 2) (cs := #[.string ⟨#[]⟩, .string ⟨#[]⟩, .int .i64 0]) (t := 70) fun d hg w1a2 hbox hb => ?_; obtain ⟨HB', a, X⟩ := bx_ bE hg hbox hb; have GE1a1 := X; clear HB hb hbox hg; have HB := HB'; clear HB'; obtain ⟨z1a3_0, z1a3_1, z1a3_2, a2, a3, a4⟩ := bk3_ a) | ((with_reducible refine gate_callee (f := 95) rfl ?_); refine gL _ Tryz.func95 _ ((octet_Lower.calls L _ _ A2.out).mono ?_); rintro e c ⟨rfl, hb⟩; refine ⟨_, rfl, ?_⟩; replace a := kM a hb; replace HB := bS bE hb; (try clear hb)) | ((with_reducible refine gate_callee (f := 90) rfl ?_); refine gL _ Tryz.func90 _ ((strings_Cut.calls t1 (⟨#[58, 47, 47]⟩ : ByteArray) i t8 _ _ ?side1 A3.out).mono ?_); (case side1 => exact ⟨lE⟩); rintro e w' ⟨rfl, ⟨nd, rfl⟩⟩; refine ⟨_, rfl, ?_⟩; (try (rw [drewN_self c]; generalize hq_ : World.drewN c _ = c; have n0_ : Aside0 (c.heap[d]? = some (.cells #[.string ⟨#[]⟩, .string ⟨#[]⟩, .int .i64 0] 70 (0, 0))) := ⟨by rw [← hq_]; exact (kC a)⟩; have n1_ : Aside0 (Below w.heap.size w c) := ⟨by rw [← hq_]; exact bE⟩; clear a HB hq_; have a := n0_; have HB := n1_; clear n0_ n1_)); obtain ⟨z3a1_0, z3a1_1, z3a1_2, a5, a6, a7⟩ := bk3_ a) | ((with_reducible refine gate_callee (f := 90) rfl ?_); refine gL _ Tryz.func90 _ ((strings_Cut.calls t8 (⟨#[58]⟩ : ByteArray) m M _ _ ?side1 A5.out).mono ?_); (case side1 => exact ⟨lE⟩); rintro e w' ⟨rfl, ⟨nd, rfl⟩⟩; refine ⟨_, rfl, ?_⟩; (try (rw [drewN_self c]; generalize hq_ : World.drewN c _ = c; have n0_ : Aside0 (c.heap[d]? = some (.cells #[.string ⟨#[]⟩, .string ⟨#[]⟩, .int .i64 0] 70 (0, 0))) := ⟨by rw [← hq_]; exact (kC a)⟩; have n1_ : Aside0 (Below w.heap.size w c) := ⟨by rw [← hq_]; exact bE⟩; clear a HB hq_; have a := n0_; have HB := n1_; clear n0_ n1_))) | ((with_reducible refine gate_callee (f := 96) rfl ?_); refine gL _ Tryz.func96 _ ((origin_Default.calls i _ _ A6.out).mono ?_); rintro e w' ⟨rfl, ⟨nd, rfl⟩⟩; refine ⟨_, rfl, ?_⟩; (try (rw [drewN_self c]; generalize hq_ : World.drewN c _ = c; have n0_ : Aside0 (c.heap[d]? = some (.cells #[.string ⟨#[]⟩, .string ⟨#[]⟩, .int .i64 0] 70 (0, 0))) := ⟨by rw [← hq_]; exact (kC a)⟩; have n1_ : Aside0 (Below w.heap.size w c) := ⟨by rw [← hq_]; exact bE⟩; clear a HB hq_; have a := n0_; have HB := n1_; clear n0_ n1_))) | ((with_reducible refine gate_dst (N := 10) rfl ?_); refine bxE (N := 10) (cs := #[.string ⟨#[]⟩, .string ⟨#[]⟩, .int .i64 0]) (t := 70) fun j hg w6a2 hbox hb => ?_; have b := Aside0.mk (hbox); have GW6a1 := sE (w := w) hg; have GE6a1 := sE (w := w) hg; have n := neL a hg; have p := neG a hg; replace a := kM a hb; replace HB := bS bE hb; clear hb hbox hg; have hnb6a3 := p.out; have hnc6a3 := n.out; obtain ⟨z6a4_0, z6a4_1, z6a4_2, a8, a9, aa⟩ := bk3_ b) | ((with_reducible refine gate_callee (f := 97) rfl ?_); refine gL _ Tryz.func97 _ ((origin_port.calls k M _ _ A8.out).mono ?_); rintro e w7a1 ⟨rfl, hb⟩; refine ⟨_, rfl, ?_⟩; have n0_ := kF a hb; have n1_ := Aside0.mk (blk_below (g := j) (o := .cells #[.string i, .string m, .int .i64 r] 70 (0, 0)) (kT) hb); have n2_ := bS bE hb; clear a; clear b; clear HB; have a := n0_; have b := n1_; have HB := n2_; clear n0_ n1_ n2_; (try clear hb); (try clear B); (try clear hk); (try clear hi); obtain ⟨z7a2_0, z7a2_1, z7a2_2, ab, ac, ad⟩ := bk3_ b) | (have z_ := G6; clear z_; ((with_reducible refine gate_callee (f := 98) rfl ?_); refine gL _ Tryz.func98 _ ((origin_Check.calls k i m s _ _ A9.out).mono ?_); rintro e ae ⟨rfl, hb⟩; refine ⟨_, rfl, ?_⟩; have n0_ := kF a hb; have n1_ := Aside0.mk (blk_below (g := j) (o := .cells #[.string i, .string m, .int .i64 s] 70 (0, 0)) (kT) hb); have n2_ := bS bE hb; clear a; clear b; clear HB; have a := n0_; have b := n1_; have HB := n2_; clear n0_ n1_ n2_; (try clear hb); (try clear B); (try clear hk); (try clear hi); obtain ⟨D, E, G, u, v, x⟩ := bk3_ b; obtain ⟨z8a3_0, z8a3_1, z8a3_2, af, ag, ah⟩ := bk3_ a)) | (have z_ := G7; clear z_; ((with_reducible refine gate_callee (f := 98) rfl ?_); refine gL _ Tryz.func98 _ ((origin_Check.calls k i m s _ _ A9.out).mono ?_); rintro e ae ⟨rfl, hb⟩; refine ⟨_, rfl, ?_⟩; have n0_ := kF a hb; have n1_ := Aside0.mk (blk_below (g := j) (o := .cells #[.string i, .string m, .int .i64 s] 70 (0, 0)) (kT) hb); have n2_ := bS bE hb; clear a; clear b; clear HB; have a := n0_; have b := n1_; have HB := n2_; clear n0_ n1_ n2_; (try clear hb); (try clear B); (try clear hk); (try clear hi); obtain ⟨D, E, G, u, v, x⟩ := bk3_ a)) | (have z_ := G8; clear z_; ((with_reducible refine gate_callee (f := 98) rfl ?_); refine gL _ Tryz.func98 _ ((origin_Check.calls k i m r _ _ A8.out).mono ?_); rintro e ai ⟨rfl, hb⟩; refine ⟨_, rfl, ?_⟩; have n0_ := kF a hb; have n1_ := Aside0.mk (blk_below (g := j) (o := .cells #[.string i, .string m, .int .i64 r] 70 (0, 0)) (kT) hb); have n2_ := bS bE hb; clear a; clear b; clear HB; have a := n0_; have b := n1_; have HB := n2_; clear n0_ n1_ n2_; (try clear hb); (try clear B); (try clear hk); (try clear hi); obtain ⟨I, J, K, y, z, A⟩ := bk3_ b; obtain ⟨z9a3_0, z9a3_1, z9a3_2, aj, ak, al⟩ := bk3_ a)) | (have z_ := G9; clear z_; ((with_reducible refine gate_callee (f := 98) rfl ?_); refine gL _ Tryz.func98 _ ((origin_Check.calls k i m r _ _ A8.out).mono ?_); rintro e ai ⟨rfl, hb⟩; refine ⟨_, rfl, ?_⟩; have n0_ := kF a hb; have n1_ := Aside0.mk (blk_below (g := j) (o := .cells #[.string i, .string m, .int .i64 r] 70 (0, 0)) (kT) hb); have n2_ := bS bE hb; clear a; clear b; clear HB; have a := n0_; have b := n1_; have HB := n2_; clear n0_ n1_ n2_; (try clear hb); (try clear B); (try clear hk); (try clear hi); obtain ⟨I, J, K, y, z, A⟩ := bk3_ a)))
  first
  | clear l
    refine bodyPost_ret (results_ct rfl _ _ d 70 #[.string ⟨#[]⟩, .string ⟨#[]⟩, .int .i64 0] (0, 0) _ rfl (kT) Tryz.underlying70 rfl (by kernel_rfl)) rfl ?_; exact ⟨rE, bE⟩
  | clear U
    refine bodyPost_ret (results_ct rfl _ _ d 70 #[.string i, .string m, .int .i64 s] (0, 0) _ rfl (kT) Tryz.underlying70 rfl (by kernel_rfl)) rfl ?_; exact ⟨rE, bE⟩
  | clear W
    refine bodyPost_ret (results_ct rfl _ _ d 70 #[.string i, .string m, .int .i64 r] (0, 0) _ rfl (kT) Tryz.underlying70 rfl (by kernel_rfl)) rfl ?_; exact ⟨rE, bE⟩
def target_all.l0 : Nat → ByteArray → ByteArray → Int → Int → Option (Bool)
 | 0, _, _, _, _ => none
 | k + 1, b, d, e, a => if a < e then (if 0 ≤ a then (if a < (b.size : Int) then (if (bt b a) < 33 then (some false) else (if (bt b a) > 126 then (some false) else ((strings_IndexByte.f d (bt b a)).bind fun c => (if c ≥ 0 then (some false) else (target_all.l0 k b d e (wrap64 (a + 1))))))) else (none)) else (none)) else (some true)
def target_all.f (k : Nat) (a b : ByteArray) : Option (Bool) := target_all.l0 k a b (a.size : Int) 0
theorem target_all.mono_l : ∀ k, (∀ a b c d, LeO (target_all.l0 k a b c d) (target_all.l0 (k + 1) a b c d))
 | 0 => fun _ _ _ _ r h => by simp [target_all.l0] at h
 | k + 1 => by
  have ih0 := target_all.mono_l k
  ·intros
   unfold target_all.l0
   exact moE
theorem target_all.mono : ∀ a b k, LeO (target_all.f k a b) (target_all.f (k + 1) a b) := by
 intro a b k
 have ih0 := target_all.mono_l k
 unfold target_all.f
 exact moE
theorem target_all.calls (k : Nat) (b d : ByteArray) (r : Bool) (w : World) (h : target_all.f k b d = some r) :
  Calls Tryz.prog 92 #[.string b, .string d] w fun e w' => e = .returned (.bool r) ∧ Drawn0 w w' := by
 have H : (target_all.l0 k b d (b.size : Int) 0) = some r := h; clear h; have H' := Aside0.mk H; clear H; go_enter Tryz.func92, Tryz.ntmps92; go_wp2
 go_loopg [8] k (fun kq g w' => ∃ (a : Int), g = .int .i64 a ∧ Aside0 (target_all.l0 kq b d (b.size : Int) a = some r) ∧ Aside0 (kq ≤ k) ∧ Drawn0 w w')
 case atStart => exact ⟨(0), rS, H', ⟨Nat.le_refl _⟩, dE⟩
 case round =>
  clear H'; obtain ⟨a, rfl, HA, i, ⟨L, rfl⟩⟩ := hrel
  cases gk with
  | zero => exact absurd HA.out (by simp [target_all.l0])
  | succ k1 =>
   have H := HA.out; clear HA
   simp only [target_all.l0] at H
   revert H; refine iteDD_ (fun j H => ?g1p) (fun j H => ?g1n)
   case' g1p =>
    revert H; refine iteND_ fun A => iteND_ fun B => iteDD_ (fun l H => ?g2p) (fun l H => ?g2n)
    case' g2p =>
     obtain rfl := si_ H; obtain ⟨M, O, D⟩ := btf_ (s := b) (x := a) mE mE; have c := trivial
    case' g2n =>
     revert H; refine iteGG_ (fun m H => ?g3p) (fun m H => ?g3n)
     case' g3p =>
      obtain rfl := si_ H; obtain ⟨U, W, E⟩ := btf_ (s := b) (x := a) mE mE; obtain ⟨X, Y, G⟩ := btf_ (s := b) (x := a) mE mE; have c := trivial
     case' g3n =>
      replace H := bd_ H; obtain ⟨Z, I, H⟩ := H; revert H; refine iteJJ_ (fun n H => ?g4p) (fun n H => ?g4n)
      case' g4p =>
       obtain rfl := si_ H; obtain ⟨J, K, t⟩ := btf_ (s := b) (x := a) mE mE; obtain ⟨u, v, o⟩ := btf_ (s := b) (x := a) mE mE; obtain ⟨y, z, p⟩ := btf_ (s := b) (x := a) mE mE; have c := trivial
      case' g4n =>
       have H' := Aside0.mk H; clear H; obtain ⟨J, K, t⟩ := btf_ (s := b) (x := a) mE mE; obtain ⟨u, v, o⟩ := btf_ (s := b) (x := a) mE mE; obtain ⟨y, z, p⟩ := btf_ (s := b) (x := a) mE mE; have q := trivial
   case' g1n =>
    obtain rfl := si_ H; have c := trivial
   all_goals
    go_wp2_with (first | (go_at_call 141; (with_reducible refine (strings_IndexByte.calls d (bt b a) _ _ I.out).mono ?_); rintro e w' ⟨rfl, ⟨nd, rfl⟩⟩))
    first
    | clear c
      go_ret; exact ⟨rS, dE⟩
    | clear q
      go_roundg k1
      case measure => have := i.out; omega
      case rel => exact ⟨(wrap64 (a + 1)), rS, H', ⟨by have := i.out; omega⟩, dE⟩
def stringslite_HasPrefix.f (b a : ByteArray) : Option (Bool) := if (b.size : Int) ≥ (a.size : Int) then (if 0 ≤ (a.size : Int) then (if (a.size : Int) ≤ (b.size : Int) then (some ((b.extract 0 ((a.size : Int) : Int).toNat).toList == a.toList)) else (none)) else (none)) else (some false)
theorem stringslite_HasPrefix.calls (b c : ByteArray) (r : Bool) (w : World) (h : stringslite_HasPrefix.f b c = some r) :
  Calls Tryz.prog 186 #[.string b, .string c] w fun e w' => e = .returned (.bool r) ∧ Drawn0 w w' := by
 have H := h; clear h; unfold stringslite_HasPrefix.f at H; revert H; refine itePP_ (fun a H => ?g1p) (fun a H => ?g1n)
 case' g1p =>
  have d : decide ((c.size : Int) ≤ (b.size : Int)) = true := decide_eq_true a; have g : decide (c.size ≤ b.size) = true := decide_eq_true (Int.ofNat_le.mp a); clear a; revert H; refine iteNT_ fun i j => iteNT_ fun l m H => ?_; obtain rfl := si_ H
 case' g1n =>
  have d : decide ((c.size : Int) ≤ (b.size : Int)) = false := decide_eq_false a; have g : decide (c.size ≤ b.size) = false := decide_eq_false (fun h => a (Int.ofNat_le.mpr h)); clear a; obtain rfl := si_ H
 all_goals
  go_enter Tryz.func186, Tryz.ntmps186; go_wp2; go_ret; exact ⟨rS, dE⟩
def stringslite_TrimPrefix.f (a c : ByteArray) : Option (ByteArray) := (stringslite_HasPrefix.f a c).bind fun b => (if b = true then (if 0 ≤ (c.size : Int) then (if (c.size : Int) ≤ (a.size : Int) then (some (a.extract ((c.size : Int) : Int).toNat a.size)) else (none)) else (none)) else (some a))
theorem stringslite_TrimPrefix.calls (a b r : ByteArray) (w : World) (h : stringslite_TrimPrefix.f a b = some r) :
  Calls Tryz.prog 181 #[.string a, .string b] w fun e w' => e = .returned (.string r) ∧ Drawn0 w w' := by
 have H := h; clear h; unfold stringslite_TrimPrefix.f at H; replace H := bd_ H; obtain ⟨m, l, H⟩ := H; revert H; refine iteB_ (fun c H => ?g1p) (fun c H => ?g1n)
 case' g1p =>
  subst c; revert H; refine iteNT_ fun d g => iteNT_ fun i j H => ?_; obtain rfl := si_ H
 case' g1n =>
  subst c; obtain rfl := si_ H
 all_goals
  go_enter Tryz.func181, Tryz.ntmps181; go_wp2_with (first | ((with_reducible refine gate_callee (f := 186) rfl ?_); refine gL _ Tryz.func186 _ ((stringslite_HasPrefix.calls a b _ _ l.out).mono ?_); rintro e w' ⟨rfl, ⟨nd, rfl⟩⟩; refine ⟨_, rfl, ?_⟩)); go_ret; exact ⟨rS, dE⟩
def strings_TrimPrefix.f (b c : ByteArray) : Option (ByteArray) := (stringslite_TrimPrefix.f b c).bind fun a => (some a)
theorem strings_TrimPrefix.calls (a b r : ByteArray) (w : World) (h : strings_TrimPrefix.f a b = some r) :
  Calls Tryz.prog 143 #[.string a, .string b] w fun e w' => e = .returned (.string r) ∧ Drawn0 w w' := by
 have H : ((stringslite_TrimPrefix.f a b).bind fun c => (some c)) = some r := h; clear h; replace H := bd_ H; obtain ⟨c, d, H⟩ := H; obtain rfl := si_ H; go_enter Tryz.func143, Tryz.ntmps143; go_wp2_with (first | ((with_reducible refine gate_callee (f := 181) rfl ?_); refine gL _ Tryz.func181 _ ((stringslite_TrimPrefix.calls a b c _ d.out).mono ?_); rintro e w' ⟨rfl, ⟨nd, rfl⟩⟩; refine ⟨_, rfl, ?_⟩)); go_ret; exact ⟨rS, dE⟩
def target_dots.j0 : Nat → ByteArray → Bool → Option (Int)
 | 0, _, _ => none
 | k + 1, a, b => if b = true then (some 1) else (if a.toList = ([46, 46] : List UInt8) then (some 2) else (if a.toList = ([46, 37, 50, 101] : List UInt8) then (some 2) else (if a.toList = ([37, 50, 101, 46] : List UInt8) then (some 2) else (if a.toList = ([37, 50, 101, 37, 50, 101] : List UInt8) then (some 2) else (some 0)))))
def target_dots.f (k : Nat) (b : ByteArray) : Option (Int) := (octet_Lower.f b).bind fun a => (if a.toList = ([46] : List UInt8) then (target_dots.j0 k a (a.toList == ([46] : List UInt8))) else (target_dots.j0 k a (a.toList == ([37, 50, 101] : List UInt8))))
theorem target_dots.mono_l : ∀ k, (∀ a b, LeO (target_dots.j0 k a b) (target_dots.j0 (k + 1) a b))
 | 0 => fun _ _ r h => by simp [target_dots.j0] at h
 | k + 1 => by
  have ih0 := target_dots.mono_l k
  ·intros
   unfold target_dots.j0
   exact moE
theorem target_dots.mono : ∀ a k, LeO (target_dots.f k a) (target_dots.f (k + 1) a) := by
 intro a k
 have ih0 := target_dots.mono_l k
 unfold target_dots.f
 exact moE
theorem target_dots.calls (k : Nat) (v : ByteArray) (r : Int) (w : World) (h : target_dots.f k v = some r) :
  Calls Tryz.prog 144 #[.string v] w fun e w' => e = .returned (.int .i64 r) ∧ Below w.heap.size w w' := by
 have HB := Aside0.mk (Below.refl w.heap.size w); have H := h; clear h; unfold target_dots.f at H; replace H := bd_ H; obtain ⟨u, z, H⟩ := H; have c := Aside0.mk H; clear H; go_enter Tryz.func144, Tryz.ntmps144
 go_upto_if 5 with (first | ((with_reducible refine gate_callee (f := 95) rfl ?_); refine gL _ Tryz.func95 _ ((octet_Lower.calls v u _ z.out).mono ?_); rintro e y ⟨rfl, hb⟩; refine ⟨_, rfl, ?_⟩; replace HB := bS bE hb; (try clear hb)))
 (try simp only [Act.put, List.setIfInBounds_toArray, List.set_cons_zero, List.set_cons_succ])
 go_cut [5] (fun d wc => ∃ (kq : Nat) (b : Bool), d = .bool b ∧ Aside0 (target_dots.j0 kq u b = some r) ∧ Aside0 (kq ≤ k) ∧ Aside0 (Below w.heap.size w wc))
 case first =>
  have H := c.out; clear c; revert H; refine iteEF_ (fun a g H => ?g1p) (fun A a g H => ?g1n)
  case' g1p =>
   (first | rw [a] | (simp only [i64_w, i32_w]; rw [a]) | skip); have H' := Aside0.mk H; clear H; have i := trivial
  case' g1n =>
   (first | rw [a] | (simp only [i64_w, i32_w]; rw [a]) | skip); have H' := Aside0.mk H; clear H; have j := trivial
  all_goals
   go_wp2; go_meet
   first
   | clear i
     case rel => exact ⟨_, ((u.toList == ([46] : List UInt8))), rS, H', ⟨oE⟩, ⟨bE⟩⟩
   | clear j
     case rel => exact ⟨_, ((u.toList == ([37, 50, 101] : List UInt8))), rS, H', ⟨oE⟩, ⟨bE⟩⟩
 case rest =>
  clear c; (try clear A); obtain ⟨kq, b, rfl, HA, B, HB⟩ := hcut
  cases kq with
  | zero => exact absurd HA.out (by simp [target_dots.j0])
  | succ D =>
   have H := HA.out; clear HA
   simp only [target_dots.j0] at H
   revert H; refine iteB_ (fun x H => ?g3p) (fun x H => ?g3n)
   case' g3p =>
    subst x; obtain rfl := si_ H
   case' g3n =>
    subst x; revert H; refine iteEF_ (fun l m H => ?g4p) (fun E l m H => ?g4n)
    case' g4p =>
     obtain rfl := si_ H
    case' g4n =>
     revert H; refine iteEF_ (fun n o H => ?g5p) (fun G n o H => ?g5n)
     case' g5p =>
      obtain rfl := si_ H
     case' g5n =>
      revert H; refine iteEF_ (fun p q H => ?g6p) (fun I p q H => ?g6n)
      case' g6p =>
       obtain rfl := si_ H
      case' g6n =>
       revert H; refine iteEF_ (fun s t H => ?g7p) (fun J s t H => ?g7n)
       case' g7p =>
        obtain rfl := si_ H
       case' g7n =>
        obtain rfl := si_ H
   all_goals
    go_wp2; go_ret; exact ⟨rE, bE⟩
end Go.Proofs.YtfmajangcbgooaaGreatDoor.Pr
