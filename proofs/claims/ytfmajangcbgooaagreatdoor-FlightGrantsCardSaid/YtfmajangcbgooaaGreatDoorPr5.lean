import Derived.Test.YtfmajangcbgooaaGreatDoorPr0
import Derived.Test.YtfmajangcbgooaaGreatDoorK0
import Derived.Test.YtfmajangcbgooaaGreatDoorPr4
import Derived.Test.YtfmajangcbgooaaGreatDoorG1
import Derived.Test.YtfmajangcbgooaaGreatDoorG4
import Derived.Test.YtfmajangcbgooaaGreatDoorG5
namespace Go.Proofs.YtfmajangcbgooaaGreatDoor.Pr
open Go.RowKit Go.Proofs.YtfmajangcbgooaaGreatDoorW.PrintWords Go.Proofs.YtfmajangcbgooaaGreatDoorW.PrintLast Go.Proofs.YtfmajangcbgooaaGreatDoorW.PrintMore
attribute [local go_sem] max2_int min2_int max_two min_two max_three min_three max_four min_four
set_option linter.unusedVariables false
set_option maxHeartbeats 64000000
set_option maxRecDepth 100000
set_option linter.unusedSimpArgs false
mutual
def origin_isLabel.j0 : Nat → ByteArray → Bool → Option (Bool)
 | 0, _, _ => none
 | k + 1, b, a => if a = true then (some false) else (origin_isLabel.l0 k b (b.size : Int) 0)
def origin_isLabel.l0 : Nat → ByteArray → Int → Int → Option (Bool)
 | 0, _, _, _ => none
 | k + 1, b, c, a => if a < c then (if 0 ≤ a then (if a < (b.size : Int) then (if (bt b a) < 97 then (if (bt b a) < 48 then (if (bt b a) = 45 then (origin_isLabel.l0 k b c (wrap64 (a + 1))) else (some false)) else (if (bt b a) > 57 then (if (bt b a) = 45 then (origin_isLabel.l0 k b c (wrap64 (a + 1))) else (some false)) else (origin_isLabel.l0 k b c (wrap64 (a + 1))))) else (if (bt b a) > 122 then (if (bt b a) < 48 then (if (bt b a) = 45 then (origin_isLabel.l0 k b c (wrap64 (a + 1))) else (some false)) else (if (bt b a) > 57 then (if (bt b a) = 45 then (origin_isLabel.l0 k b c (wrap64 (a + 1))) else (some false)) else (origin_isLabel.l0 k b c (wrap64 (a + 1))))) else (origin_isLabel.l0 k b c (wrap64 (a + 1))))) else (none)) else (none)) else (some true)
end
def origin_isLabel.f (k : Nat) (a : ByteArray) : Option (Bool) := if (a.size : Int) < 1 then (origin_isLabel.j0 k a true) else (if (a.size : Int) > 63 then (origin_isLabel.j0 k a true) else (if 0 < (a.size : Int) then (if (bt a 0) = 45 then (origin_isLabel.j0 k a true) else (if 0 ≤ (wrap64 ((a.size : Int) - 1)) then (if (wrap64 ((a.size : Int) - 1)) < (a.size : Int) then (origin_isLabel.j0 k a ((bt a (wrap64 ((a.size : Int) - 1))) == 45)) else (none)) else (none))) else (none)))
theorem origin_isLabel.mono_l : ∀ k, (∀ a b, LeO (origin_isLabel.j0 k a b) (origin_isLabel.j0 (k + 1) a b)) ∧ (∀ a b c, LeO (origin_isLabel.l0 k a b c) (origin_isLabel.l0 (k + 1) a b c))
 | 0 => ⟨fun _ _ r h => by simp [origin_isLabel.j0] at h, fun _ _ _ r h => by simp [origin_isLabel.l0] at h⟩
 | k + 1 => by
  obtain ⟨ih0, ih1⟩ := origin_isLabel.mono_l k
  refine ⟨?_, ?_⟩
  ·intros
   unfold origin_isLabel.j0
   exact moE
  ·intros
   unfold origin_isLabel.l0
   exact moE
theorem origin_isLabel.mono : ∀ a k, LeO (origin_isLabel.f k a) (origin_isLabel.f (k + 1) a) := by
 intro a k
 obtain ⟨ih0, ih1⟩ := origin_isLabel.mono_l k
 unfold origin_isLabel.f
 exact moE
theorem origin_isLabel.calls (k : Nat) (b : ByteArray) (r : Bool) (w : World) (h : origin_isLabel.f k b = some r) :
  Calls Tryz.prog 182 #[.string b] w fun e w' => e = .returned (.bool r) ∧ Drawn0 w w' := by
 have H := h; clear h; unfold origin_isLabel.f at H; have L := Aside0.mk H; clear H; go_enter Tryz.func182, Tryz.ntmps182
 go_upto_region 1 with (first | (fail))
 go_cut [25] (fun Y wc => ∃ (kq : Nat) (l : Bool), Y = .bool l ∧ Aside0 (origin_isLabel.j0 kq b l = some r) ∧ Aside0 (kq ≤ k) ∧ Drawn0 w wc)
 case first =>
  have H := L.out; clear L; revert H; refine itePP_ (fun c2 H => ?g1p) (fun c2 H => ?g1n)
  case' g1p =>
   have j := decide_eq_true c2; have Z : decide (b.size < 1) = true := decide_eq_true (by omega); clear c2; (first | rw [j] | (simp only [i64_w, i32_w]; rw [j]) | skip); have H' := Aside0.mk H; clear H; have p := trivial
  case' g1n =>
   have j := decide_eq_false c2; have Z : decide (b.size < 1) = false := decide_eq_false (by omega); clear c2; (first | rw [j] | (simp only [i64_w, i32_w]; rw [j]) | skip); revert H; refine itePP_ (fun c3 H => ?g2p) (fun c3 H => ?g2n)
   case' g2p =>
    have q : decide (63 < (b.size : Int)) = true := decide_eq_true c3; have t : decide (63 < b.size) = true := decide_eq_true (by omega); clear c3; have H' := Aside0.mk H; clear H; have p := trivial
   case' g2n =>
    have q : decide (63 < (b.size : Int)) = false := decide_eq_false c3; have t : decide (63 < b.size) = false := decide_eq_false (by omega); clear c3; revert H; refine iteNP_ fun c4 H => ?_; have B := decide_eq_true c4; have D : decide (0 < b.size) = true := decide_eq_true (by omega); clear c4; revert H; refine iteEF_ (fun u v H => ?g3p) (fun c5 u v H => ?g3n)
    case' g3p =>
     have H' := Aside0.mk H; clear H; have p6 : 0 ≤ (0 : Int) := (by omega); have q6 : 0 < b.size := (by have : (0 : Int) < (b.size : Int) := of_decide_eq_true mE; omega); have a1 : ∀ h : 0 < b.size, ((b[0]'h).toNat : Int) = bt b 0 := bt_at b 0; clear p6; have a2 : (0 < (b.size : Int)) = True := eq_true (of_decide_eq_true mE); replace q6 := eq_true q6; have p := trivial
    case' g3n =>
     generalize E : (wrap64 ((b.size : Int) - 1)) = a3 at H; have hji6w := (i64_w _).trans E; revert H; refine iteND_ fun G => iteND_ fun I H => ?_; have H' := Aside0.mk H; clear H; have p9 : 0 ≤ (0 : Int) := (by omega); have q9 : 0 < b.size := (by have : (0 : Int) < (b.size : Int) := of_decide_eq_true mE; omega); have hx9 : ∀ h : 0 < b.size, ((b[0]'h).toNat : Int) = bt b 0 := bt_at b 0; clear p9; have qi9 : (0 < (b.size : Int)) = True := eq_true (of_decide_eq_true mE); replace q9 := eq_true q9; obtain ⟨a4, a5, J⟩ := btf_ (s := b) (x := (a3)) mE mE; have a6 := trivial
  all_goals
   go_wp2; go_meet
   first
   | clear p
     case rel => exact ⟨_, (true), rS, H', ⟨oE⟩, dE⟩
   | clear a6
     case rel => exact ⟨_, (((bt b (a3)) == 45)), (by first | rfl | (simp; done) | (simp only [← E] <;> (first | rfl | simp)) | (simp [*]; done)), H', ⟨oE⟩, dE⟩
 case rest =>
  clear L; (try clear c2); (try clear c3); (try clear q); (try clear t); (try clear c4); (try clear B); (try clear D); (try clear c5); (try clear u); (try clear v); (try clear p6); (try clear q6); (try clear a1); (try clear a2); (try clear G); (try clear I); (try clear a4); (try clear a5); (try clear J); obtain ⟨kq, l, rfl, HA, a7, ⟨mc1, rfl⟩⟩ := hcut
  cases kq with
  | zero => exact absurd HA.out (by simp [origin_isLabel.j0])
  | succ a8 =>
   have H := HA.out; clear HA
   simp only [origin_isLabel.j0] at H
   revert H; refine iteB_ (fun y H => ?g5p) (fun y H => ?g5n)
   case' g5p =>
    subst y; obtain rfl := si_ H; have a9 := trivial
   case' g5n =>
    subst y; have H' := Aside0.mk H; clear H; have aa := trivial
   all_goals
    go_wp2
    first
    | clear a9
      go_ret; exact ⟨rS, dE⟩
    | clear aa
      go_loopg [28] a8 (fun kq ab w' => ∃ (a : Int), ab = .int .i64 a ∧ Aside0 (origin_isLabel.l0 kq b (b.size : Int) a = some r) ∧ Aside0 (kq ≤ a8) ∧ Drawn0 w w')
      case atStart => exact ⟨(0), rS, H', ⟨Nat.le_refl _⟩, dE⟩
      case round =>
       clear H'; (try clear c2); (try clear c3); (try clear q); (try clear t); (try clear c4); (try clear B); (try clear D); (try clear c5); (try clear u); (try clear v); (try clear p6); (try clear q6); (try clear a1); (try clear a2); (try clear G); (try clear I); (try clear a4); (try clear a5); (try clear J); (try clear y); obtain ⟨a, rfl, HA, ac, ⟨m2, rfl⟩⟩ := hrel
       cases gk with
       | zero => exact absurd HA.out (by simp [origin_isLabel.l0])
       | succ k2 =>
        have H := HA.out; clear HA
        simp only [origin_isLabel.l0] at H
        revert H; refine iteDD_ (fun M H => ?g7p) (fun M H => ?g7n)
        case' g7p =>
         revert H; refine iteND_ fun c13b0 => iteND_ fun c14b0 => iteDD_ (fun O H => ?g8p) (fun O H => ?g8n)
         case' g8p =>
          revert H; refine iteDD_ (fun m H => ?g9p) (fun m H => ?g9n)
          case' g9p =>
           revert H; refine iteEF_ (fun d U H => ?g10p) (fun c17 d U H => ?g10n)
           case' g10p =>
            have H' := Aside0.mk H; clear H; obtain ⟨ad, ae, K⟩ := btf_ (s := b) (x := a) mE mE; have c := trivial
           case' g10n =>
            obtain rfl := si_ H; obtain ⟨ad, ae, K⟩ := btf_ (s := b) (x := a) mE mE; have g := trivial
          case' g9n =>
           revert H; refine iteGG_ (fun d H => ?g11p) (fun d H => ?g11n)
           case' g11p =>
            revert H; refine iteEF_ (fun i n H => ?g12p) (fun c18 i n H => ?g12n)
            case' g12p =>
             have H' := Aside0.mk H; clear H; obtain ⟨z, A, o⟩ := btf_ (s := b) (x := a) mE mE; have c := trivial
            case' g12n =>
             obtain rfl := si_ H; obtain ⟨z, A, o⟩ := btf_ (s := b) (x := a) mE mE; have g := trivial
           case' g11n =>
            have H' := Aside0.mk H; clear H; obtain ⟨ad, ae, K⟩ := btf_ (s := b) (x := a) mE mE; have c := trivial
         case' g8n =>
          revert H; refine iteGG_ (fun m H => ?g13p) (fun m H => ?g13n)
          case' g13p =>
           revert H; refine iteDD_ (fun d H => ?g14p) (fun d H => ?g14n)
           case' g14p =>
            revert H; refine iteEF_ (fun i n H => ?g15p) (fun c18 i n H => ?g15n)
            case' g15p =>
             have H' := Aside0.mk H; clear H; obtain ⟨z, A, o⟩ := btf_ (s := b) (x := a) mE mE; have c := trivial
            case' g15n =>
             obtain rfl := si_ H; obtain ⟨z, A, o⟩ := btf_ (s := b) (x := a) mE mE; have g := trivial
           case' g14n =>
            revert H; refine iteGG_ (fun i H => ?g16p) (fun i H => ?g16n)
            case' g16p =>
             revert H; refine iteEF_ (fun W X H => ?g17p) (fun c19 W X H => ?g17n)
             case' g17p =>
              have H' := Aside0.mk H; clear H; obtain ⟨p20, q20, af⟩ := btf_ (s := b) (x := a) mE mE; have c := trivial
             case' g17n =>
              obtain rfl := si_ H; obtain ⟨p20, q20, af⟩ := btf_ (s := b) (x := a) mE mE; have g := trivial
            case' g16n =>
             have H' := Aside0.mk H; clear H; obtain ⟨z, A, o⟩ := btf_ (s := b) (x := a) mE mE; have c := trivial
          case' g13n =>
           have H' := Aside0.mk H; clear H; obtain ⟨p17, q17, hx17⟩ := btf_ (s := b) (x := a) mE mE; have c := trivial
        case' g7n =>
         obtain rfl := si_ H; have g := trivial
        all_goals
         go_wp2
         first
         | clear c
           go_roundg k2
           case measure => have := a7.out; have := ac.out; omega
           case rel => exact ⟨(wrap64 (a + 1)), rS, H', ⟨by have := a7.out; have := ac.out; omega⟩, dE⟩
         | clear g
           go_ret; exact ⟨rS, dE⟩
def origin_isHost.l0 : Nat → List ByteArray → Int → Int → Option (Bool)
 | 0, _, _, _ => none
 | k + 1, d, b, a => if a < b then (if 0 ≤ a then (if a < (d.length : Int) then ((origin_isLabel.f k (rdOf ByteArray.empty d a)).bind fun c => (if c = true then (origin_isHost.l0 k d b (wrap64 (a + 1))) else (some false))) else (none)) else (none)) else (some true)
def origin_isHost.f (k : Nat) (b : ByteArray) : Option (Bool) := if (b.size : Int) > 253 then (some false) else ((strings_Split.f b (⟨#[46]⟩ : ByteArray)).bind fun a => (origin_isHost.l0 k a (a.length : Int) 0))
theorem origin_isHost.mono_l : ∀ k, (∀ a b c, LeO (origin_isHost.l0 k a b c) (origin_isHost.l0 (k + 1) a b c))
 | 0 => fun _ _ _ r h => by simp [origin_isHost.l0] at h
 | k + 1 => by
  have ih0 := origin_isHost.mono_l k
  ·intros
   have d := @origin_isLabel.mono; unfold origin_isHost.l0
   exact moE
theorem origin_isHost.mono : ∀ a k, LeO (origin_isHost.f k a) (origin_isHost.f (k + 1) a) := by
 intro a k
 have ih0 := origin_isHost.mono_l k
 have b := @origin_isLabel.mono; unfold origin_isHost.f
 exact moE
theorem origin_isHost.calls (k : Nat) (j : ByteArray) (r : Bool) (w : World) (h : origin_isHost.f k j = some r) :
  Calls Tryz.prog 145 #[.string j] w fun e w' => e = .returned (.bool r) ∧ Below w.heap.size w w' := by
 have HB := Aside0.mk (Below.refl w.heap.size w); have H := h; clear h; unfold origin_isHost.f at H; revert H; refine itePP_ (fun t H => ?g1p) (fun t H => ?g1n)
 case' g1p =>
  have d : decide (253 < (j.size : Int)) = true := decide_eq_true t; have g : decide (253 < j.size) = true := decide_eq_true (by omega); clear t; obtain rfl := si_ H; have u := trivial
 case' g1n =>
  have d : decide (253 < (j.size : Int)) = false := decide_eq_false t; have g : decide (253 < j.size) = false := decide_eq_false (by omega); clear t; replace H := bd_ H; obtain ⟨l, K, H⟩ := H; have H' := Aside0.mk H; clear H; have v := trivial
 all_goals
  go_enter Tryz.func145, Tryz.ntmps145; go_wp2_with (first | ((with_reducible refine gate_callee (f := 142) rfl ?_); refine gL _ Tryz.func142 _ ((strings_Split.calls j (⟨#[46]⟩ : ByteArray) _ _ K.out).mono ?_); rintro e E ⟨G, rfl, b, hb⟩; refine ⟨_, rfl, ?_⟩; have n0_ := Aside0.mk (Kd.R_lower b (below_size bE)); have n1_ := bS bE hb; clear HB; have c := n0_; have HB := n1_; clear n0_ n1_; (try clear hb); (try clear L); (try clear hk); (try clear hi); (try clear b); obtain ⟨m, n, o⟩ := Kd.R_slice c.out; subst o))
  first
  | clear u
    go_ret; exact ⟨rE, bE⟩
  | clear v
    go_loopg [11] k (fun kq x w' => ∃ (a : Int), x = .int .i64 a ∧ Aside0 (origin_isHost.l0 kq l (l.length : Int) a = some r) ∧ Aside0 (kq ≤ k) ∧ Aside0 (Kd.R Kd.string 9 w' w.heap.size (fun _ => True) (.slice m l.length n) l) ∧ Aside0 (Below w.heap.size w w'))
    case atStart => exact ⟨(0), rS, H', ⟨Nat.le_refl _⟩, ⟨by (with_reducible repeat (first | apply Kd.R_alloc | apply Kd.R_drewN | apply Kd.R_drew)); exact c.out⟩, ⟨bE⟩⟩
    case round =>
     clear H'; (try clear t); (try clear d); (try clear g); obtain ⟨a, rfl, HA, y, HO_9, HB⟩ := hrel
     cases gk with
     | zero => exact absurd HA.out (by simp [origin_isHost.l0])
     | succ k1 =>
      have H := HA.out; clear HA
      simp only [origin_isHost.l0] at H
      revert H; refine iteDD_ (fun z H => ?g3p) (fun z H => ?g3n)
      case' g3p =>
       revert H; refine iteND_ fun I => iteND_ fun J H => ?_; replace H := bd_ H; obtain ⟨O, M, H⟩ := H; revert H; refine iteB_ (fun c8 H => ?g4p) (fun c8 H => ?g4n)
       case' g4p =>
        subst c8; have H' := Aside0.mk H; clear H; have p : 0 ≤ (a : Int) := of_decide_eq_true mE; have q : a < (l.length : Int) := of_decide_eq_true mE; obtain ⟨B, D, s⟩ := Kd.at_string (Kd.R_reads' HO_9.out).2.2 a p q
        cases D
        replace p := eq_true p; replace q := eq_true q; have A := trivial
       case' g4n =>
        subst c8; obtain rfl := si_ H; have p : 0 ≤ (a : Int) := of_decide_eq_true mE; have q : a < (l.length : Int) := of_decide_eq_true mE; obtain ⟨B, D, s⟩ := Kd.at_string (Kd.R_reads' HO_9.out).2.2 a p q
        cases D
        replace p := eq_true p; replace q := eq_true q; have i := trivial
      case' g3n =>
       obtain rfl := si_ H; have i := trivial
      all_goals
       go_wp2_with (first | ((with_reducible refine gate_callee (f := 182) rfl ?_); refine gL _ Tryz.func182 _ ((origin_isLabel.calls k1 (rdOf ByteArray.empty l a) _ _ M.out).mono ?_); rintro e w' ⟨rfl, ⟨nd, rfl⟩⟩; refine ⟨_, rfl, ?_⟩))
       first
       | clear A
         go_roundg k1
         case measure => have := y.out; omega
         case rel => exact ⟨(wrap64 (a + 1)), rS, H', ⟨by have := y.out; omega⟩, ⟨by (with_reducible repeat (first | apply Kd.R_alloc | apply Kd.R_drewN | apply Kd.R_drew)); exact HO_9.out⟩, ⟨bE⟩⟩
       | clear i
         go_ret; exact ⟨rE, bE⟩
def origin_Check.f (k : Nat) (b c : ByteArray) (a : Int) : Option (Bool) := (origin_Default.f b).bind fun d => (if d = 0 then (some false) else ((origin_isHost.f k c).bind fun e => (if e = true then (if a ≥ 1 then (some (decide (a ≤ 65535))) else (some false)) else (some false))))
theorem origin_Check.mono : ∀ a b c k, LeO (origin_Check.f k a b c) (origin_Check.f (k + 1) a b c) := by
 intro a b c k
 have d := @origin_isHost.mono; unfold origin_Check.f
 exact moE
theorem origin_Check.calls (k : Nat) (b c : ByteArray) (d : Int) (r : Bool) (w : World) (h : origin_Check.f k b c d = some r) :
  Calls Tryz.prog 98 #[.agg #[.string b, .string c, .int .i64 d]] w fun e w' => e = .returned (.bool r) ∧ Below w.heap.size w w' := by
 have E := Tryz.underlying70; have HB := Aside0.mk (Below.refl w.heap.size w); have H := h; clear h; unfold origin_Check.f at H; replace H := bd_ H; obtain ⟨L, J, H⟩ := H; revert H; refine iteEF_ (fun i j H => ?g1p) (fun c2 i j H => ?g1n)
 case' g1p =>
  obtain rfl := si_ H
 case' g1n =>
  replace H := bd_ H; obtain ⟨M, K, H⟩ := H; revert H; refine iteB_ (fun c4 H => ?g2p) (fun c4 H => ?g2n)
  case' g2p =>
   subst c4; revert H; refine iteJJ_ (fun l H => ?g3p) (fun l H => ?g3n)
   case' g3p =>
    obtain rfl := si_ H
   case' g3n =>
    obtain rfl := si_ H
  case' g2n =>
   subst c4; obtain rfl := si_ H
 all_goals
  go_enter Tryz.func98, Tryz.ntmps98; go_wp2_with (first | ((with_reducible refine gate_dst (N := 1) rfl ?_); refine bxE (N := 1) (cs := #[.string b, .string c, .int .i64 d]) (t := 70) fun B hg G hbox hb => ?_; obtain ⟨HB', a, g⟩ := bx_ bE hg hbox hb; have D := g; clear HB hb hbox hg; have HB := HB'; clear HB'; obtain ⟨u, v, x, m, n, o⟩ := bk3_ a) | ((with_reducible refine gate_callee (f := 96) rfl ?_); refine gL _ Tryz.func96 _ ((origin_Default.calls b _ _ J.out).mono ?_); rintro e w' ⟨rfl, ⟨nd, rfl⟩⟩; refine ⟨_, rfl, ?_⟩) | (go_at_call 145; (with_reducible refine (origin_isHost.calls k c _ _ K.out).mono ?_); rintro e I ⟨rfl, hb⟩; replace a := kM a hb; replace HB := bS bE hb; (try clear hb); obtain ⟨y, z, A, p, q, s⟩ := bk3_ a)); go_ret; exact ⟨rE, bE⟩
def origin_Parse.f (k : Nat) (j : ByteArray) : Option (ByteArray × ByteArray × Int × Int) := if (j.size : Int) > 512 then (some ((⟨#[]⟩ : ByteArray), (⟨#[]⟩ : ByteArray), 0, 4)) else ((octet_Lower.f j).bind fun e => ((strings_Cut.f e (⟨#[58, 47, 47]⟩ : ByteArray)).bind fun a => (if a.2.2 = true then ((strings_Cut.f a.2.1 (⟨#[58]⟩ : ByteArray)).bind fun b => ((origin_Default.f a.1).bind fun c => (if b.2.2 = true then ((origin_port.f k b.2.1).bind fun d => ((origin_Check.f k a.1 b.1 d).bind fun g => (if g = true then (some (a.1, b.1, d, 0)) else (some ((⟨#[]⟩ : ByteArray), (⟨#[]⟩ : ByteArray), 0, 3))))) else ((origin_Check.f k a.1 b.1 c).bind fun i => (if i = true then (some (a.1, b.1, c, 0)) else (some ((⟨#[]⟩ : ByteArray), (⟨#[]⟩ : ByteArray), 0, 3))))))) else (some ((⟨#[]⟩ : ByteArray), (⟨#[]⟩ : ByteArray), 0, 3)))))
theorem origin_Parse.mono : ∀ a k, LeO (origin_Parse.f k a) (origin_Parse.f (k + 1) a) := by
 intro a k
 have b := @origin_Check.mono; have c := @origin_port.mono; unfold origin_Parse.f
 exact moE
theorem origin_Parse.calls (k : Nat) (L r1 r2 : ByteArray) (r3 r4 : Int) (w : World) (hM_ : Aside0 (LaidW w)) (h : origin_Parse.f k L = some (r1, r2, r3, r4)) :
  Calls Tryz.prog 46 #[.string L] w fun e w' => e = .returned (.tuple #[.agg #[.string r1, .string r2, .int .i64 r3], .int .i64 r4]) ∧ Below w.heap.size w w' := by
 have hu70 := Tryz.underlying70; have HB := Aside0.mk (Below.refl w.heap.size w); have H := h; clear h; unfold origin_Parse.f at H; revert H; refine itePP_ (fun X H => ?g1p) (fun X H => ?g1n)
 case' g1p =>
  have Y : decide (512 < (L.size : Int)) = true := decide_eq_true X; have Z : decide (512 < L.size) = true := decide_eq_true (by omega); clear X
  simp only [Option.some.injEq, Prod.mk.injEq] at H
  obtain ⟨rfl, rfl, rfl, rfl⟩ := H; have l := trivial
 case' g1n =>
  have Y : decide (512 < (L.size : Int)) = false := decide_eq_false X; have Z : decide (512 < L.size) = false := decide_eq_false (by omega); clear X; replace H := bd_ H; obtain ⟨t1, A2, H⟩ := H; replace H := bd_ H; obtain ⟨⟨i, t8, t9⟩, A3, H⟩ := H; replace H : (if t9 = true then ((strings_Cut.f t8 (⟨#[58]⟩ : ByteArray)).bind fun q => ((origin_Default.f i).bind fun r => (if q.2.2 = true then ((origin_port.f k q.2.1).bind fun s => ((origin_Check.f k i q.1 s).bind fun t6 => (if t6 = true then (some (i, q.1, s, 0)) else (some ((⟨#[]⟩ : ByteArray), (⟨#[]⟩ : ByteArray), 0, 3))))) else ((origin_Check.f k i q.1 r).bind fun t7 => (if t7 = true then (some (i, q.1, r, 0)) else (some ((⟨#[]⟩ : ByteArray), (⟨#[]⟩ : ByteArray), 0, 3))))))) else (some ((⟨#[]⟩ : ByteArray), (⟨#[]⟩ : ByteArray), 0, 3))) = some (r1, r2, r3, r4) := H; revert H; refine iteB_ (fun c4 H => ?g2p) (fun c4 H => ?g2n)
  case' g2p =>
   subst c4; replace H := bd_ H; obtain ⟨⟨m, M, t11⟩, A5, H⟩ := H; replace H : ((origin_Default.f i).bind fun r => (if t11 = true then ((origin_port.f k M).bind fun s => ((origin_Check.f k i m s).bind fun t6 => (if t6 = true then (some (i, m, s, 0)) else (some ((⟨#[]⟩ : ByteArray), (⟨#[]⟩ : ByteArray), 0, 3))))) else ((origin_Check.f k i m r).bind fun t7 => (if t7 = true then (some (i, m, r, 0)) else (some ((⟨#[]⟩ : ByteArray), (⟨#[]⟩ : ByteArray), 0, 3)))))) = some (r1, r2, r3, r4) := H; replace H := bd_ H; obtain ⟨r, A6, H⟩ := H; revert H; refine iteB_ (fun c7 H => ?g3p) (fun c7 H => ?g3n)
   case' g3p =>
    subst c7; replace H := bd_ H; obtain ⟨s, A8, H⟩ := H; replace H := bd_ H; obtain ⟨t6, A9, H⟩ := H; revert H; refine iteB_ (fun c10 H => ?g4p) (fun c10 H => ?g4n)
    case' g4p =>
     subst c10
     simp only [Option.some.injEq, Prod.mk.injEq] at H
     obtain ⟨rfl, rfl, rfl, rfl⟩ := H; have G6 := trivial; have O := trivial
    case' g4n =>
     subst c10
     simp only [Option.some.injEq, Prod.mk.injEq] at H
     obtain ⟨rfl, rfl, rfl, rfl⟩ := H; have G7 := trivial; have l := trivial
   case' g3n =>
    subst c7; replace H := bd_ H; obtain ⟨t7, A8, H⟩ := H; revert H; refine iteB_ (fun c9 H => ?g5p) (fun c9 H => ?g5n)
    case' g5p =>
     subst c9
     simp only [Option.some.injEq, Prod.mk.injEq] at H
     obtain ⟨rfl, rfl, rfl, rfl⟩ := H; have G8 := trivial; have U := trivial
    case' g5n =>
     subst c9
     simp only [Option.some.injEq, Prod.mk.injEq] at H
     obtain ⟨rfl, rfl, rfl, rfl⟩ := H; have G9 := trivial; have l := trivial
  case' g2n =>
   subst c4
   simp only [Option.some.injEq, Prod.mk.injEq] at H
   obtain ⟨rfl, rfl, rfl, rfl⟩ := H; have l := trivial
 all_goals
  go_enter Tryz.func46, Tryz.ntmps46; go_wp2_with (first | ((with_reducible refine gate_dst (N := 2) rfl ?_); refine bxE (N := 2) (cs := #[.string ⟨#[]⟩, .string ⟨#[]⟩, .int .i64 0]) (t := 70) fun d hg w1a2 hbox hb => ?_; obtain ⟨HB', a, W⟩ := bx_ bE hg hbox hb; have GE1a1 := W; clear HB hb hbox hg; have HB := HB'; clear HB'; obtain ⟨z1a3_0, z1a3_1, z1a3_2, a1, a2, a3⟩ := bk3_ a) | ((with_reducible refine gate_callee (f := 95) rfl ?_); refine gL _ Tryz.func95 _ ((octet_Lower.calls L _ _ A2.out).mono ?_); rintro e c ⟨rfl, hb⟩; refine ⟨_, rfl, ?_⟩; replace a := kM a hb; replace HB := bS bE hb; (try clear hb)) | ((with_reducible refine gate_callee (f := 90) rfl ?_); refine gL _ Tryz.func90 _ ((strings_Cut.calls t1 (⟨#[58, 47, 47]⟩ : ByteArray) i t8 _ _ ?side1 A3.out).mono ?_); (case side1 => exact ⟨lE⟩); rintro e w' ⟨rfl, ⟨nd, rfl⟩⟩; refine ⟨_, rfl, ?_⟩; (try (rw [drewN_self c]; generalize hq_ : World.drewN c _ = c; have n0_ : Aside0 (c.heap[d]? = some (.cells #[.string ⟨#[]⟩, .string ⟨#[]⟩, .int .i64 0] 70 (0, 0))) := ⟨by rw [← hq_]; exact (kC a)⟩; have n1_ : Aside0 (Below w.heap.size w c) := ⟨by rw [← hq_]; exact bE⟩; clear a HB hq_; have a := n0_; have HB := n1_; clear n0_ n1_)); obtain ⟨z3a1_0, z3a1_1, z3a1_2, a4, a5, a6⟩ := bk3_ a) | ((with_reducible refine gate_callee (f := 90) rfl ?_); refine gL _ Tryz.func90 _ ((strings_Cut.calls t8 (⟨#[58]⟩ : ByteArray) m M _ _ ?side1 A5.out).mono ?_); (case side1 => exact ⟨lE⟩); rintro e w' ⟨rfl, ⟨nd, rfl⟩⟩; refine ⟨_, rfl, ?_⟩; (try (rw [drewN_self c]; generalize hq_ : World.drewN c _ = c; have n0_ : Aside0 (c.heap[d]? = some (.cells #[.string ⟨#[]⟩, .string ⟨#[]⟩, .int .i64 0] 70 (0, 0))) := ⟨by rw [← hq_]; exact (kC a)⟩; have n1_ : Aside0 (Below w.heap.size w c) := ⟨by rw [← hq_]; exact bE⟩; clear a HB hq_; have a := n0_; have HB := n1_; clear n0_ n1_))) | ((with_reducible refine gate_callee (f := 96) rfl ?_); refine gL _ Tryz.func96 _ ((origin_Default.calls i _ _ A6.out).mono ?_); rintro e w' ⟨rfl, ⟨nd, rfl⟩⟩; refine ⟨_, rfl, ?_⟩; (try (rw [drewN_self c]; generalize hq_ : World.drewN c _ = c; have n0_ : Aside0 (c.heap[d]? = some (.cells #[.string ⟨#[]⟩, .string ⟨#[]⟩, .int .i64 0] 70 (0, 0))) := ⟨by rw [← hq_]; exact (kC a)⟩; have n1_ : Aside0 (Below w.heap.size w c) := ⟨by rw [← hq_]; exact bE⟩; clear a HB hq_; have a := n0_; have HB := n1_; clear n0_ n1_))) | ((with_reducible refine gate_dst (N := 10) rfl ?_); refine bxE (N := 10) (cs := #[.string ⟨#[]⟩, .string ⟨#[]⟩, .int .i64 0]) (t := 70) fun j hg w6a2 hbox hb => ?_; have b := Aside0.mk (hbox); have GW6a1 := sE (w := w) hg; have GE6a1 := sE (w := w) hg; have n := neL a hg; have p := neG a hg; replace a := kM a hb; replace HB := bS bE hb; clear hb hbox hg; have hnb6a3 := p.out; have hnc6a3 := n.out; obtain ⟨z6a4_0, z6a4_1, z6a4_2, a7, a8, a9⟩ := bk3_ b) | ((with_reducible refine gate_callee (f := 97) rfl ?_); refine gL _ Tryz.func97 _ ((origin_port.calls k M _ _ A8.out).mono ?_); rintro e w7a1 ⟨rfl, hb⟩; refine ⟨_, rfl, ?_⟩; have n0_ := kF a hb; have n1_ := Aside0.mk (blk_below (g := j) (o := .cells #[.string i, .string m, .int .i64 r] 70 (0, 0)) (kT) hb); have n2_ := bS bE hb; clear a; clear b; clear HB; have a := n0_; have b := n1_; have HB := n2_; clear n0_ n1_ n2_; (try clear hb); (try clear B); (try clear hk); (try clear hi); obtain ⟨z7a2_0, z7a2_1, z7a2_2, aa, ab, ac⟩ := bk3_ b) | (have z_ := G6; clear z_; ((with_reducible refine gate_callee (f := 98) rfl ?_); refine gL _ Tryz.func98 _ ((origin_Check.calls k i m s _ _ A9.out).mono ?_); rintro e ad ⟨rfl, hb⟩; refine ⟨_, rfl, ?_⟩; have n0_ := kF a hb; have n1_ := Aside0.mk (blk_below (g := j) (o := .cells #[.string i, .string m, .int .i64 s] 70 (0, 0)) (kT) hb); have n2_ := bS bE hb; clear a; clear b; clear HB; have a := n0_; have b := n1_; have HB := n2_; clear n0_ n1_ n2_; (try clear hb); (try clear B); (try clear hk); (try clear hi); obtain ⟨D, E, G, u, v, x⟩ := bk3_ b; obtain ⟨z8a3_0, z8a3_1, z8a3_2, ae, af, ag⟩ := bk3_ a)) | (have z_ := G7; clear z_; ((with_reducible refine gate_callee (f := 98) rfl ?_); refine gL _ Tryz.func98 _ ((origin_Check.calls k i m s _ _ A9.out).mono ?_); rintro e ad ⟨rfl, hb⟩; refine ⟨_, rfl, ?_⟩; have n0_ := kF a hb; have n1_ := Aside0.mk (blk_below (g := j) (o := .cells #[.string i, .string m, .int .i64 s] 70 (0, 0)) (kT) hb); have n2_ := bS bE hb; clear a; clear b; clear HB; have a := n0_; have b := n1_; have HB := n2_; clear n0_ n1_ n2_; (try clear hb); (try clear B); (try clear hk); (try clear hi); obtain ⟨D, E, G, u, v, x⟩ := bk3_ a)) | (have z_ := G8; clear z_; ((with_reducible refine gate_callee (f := 98) rfl ?_); refine gL _ Tryz.func98 _ ((origin_Check.calls k i m r _ _ A8.out).mono ?_); rintro e ah ⟨rfl, hb⟩; refine ⟨_, rfl, ?_⟩; have n0_ := kF a hb; have n1_ := Aside0.mk (blk_below (g := j) (o := .cells #[.string i, .string m, .int .i64 r] 70 (0, 0)) (kT) hb); have n2_ := bS bE hb; clear a; clear b; clear HB; have a := n0_; have b := n1_; have HB := n2_; clear n0_ n1_ n2_; (try clear hb); (try clear B); (try clear hk); (try clear hi); obtain ⟨I, J, K, y, z, A⟩ := bk3_ b; obtain ⟨z9a3_0, z9a3_1, z9a3_2, ai, aj, ak⟩ := bk3_ a)) | (have z_ := G9; clear z_; ((with_reducible refine gate_callee (f := 98) rfl ?_); refine gL _ Tryz.func98 _ ((origin_Check.calls k i m r _ _ A8.out).mono ?_); rintro e ah ⟨rfl, hb⟩; refine ⟨_, rfl, ?_⟩; have n0_ := kF a hb; have n1_ := Aside0.mk (blk_below (g := j) (o := .cells #[.string i, .string m, .int .i64 r] 70 (0, 0)) (kT) hb); have n2_ := bS bE hb; clear a; clear b; clear HB; have a := n0_; have b := n1_; have HB := n2_; clear n0_ n1_ n2_; (try clear hb); (try clear B); (try clear hk); (try clear hi); obtain ⟨I, J, K, y, z, A⟩ := bk3_ a)))
  first
  | clear l
    refine bodyPost_ret (results_ct rfl _ _ d 70 #[.string ⟨#[]⟩, .string ⟨#[]⟩, .int .i64 0] (0, 0) _ rfl (kT) Tryz.underlying70 rfl (by kernel_rfl)) rfl ?_; exact ⟨rE, bE⟩
  | clear O
    refine bodyPost_ret (results_ct rfl _ _ d 70 #[.string i, .string m, .int .i64 s] (0, 0) _ rfl (kT) Tryz.underlying70 rfl (by kernel_rfl)) rfl ?_; exact ⟨rE, bE⟩
  | clear U
    refine bodyPost_ret (results_ct rfl _ _ d 70 #[.string i, .string m, .int .i64 r] (0, 0) _ rfl (kT) Tryz.underlying70 rfl (by kernel_rfl)) rfl ?_; exact ⟨rE, bE⟩
end Go.Proofs.YtfmajangcbgooaaGreatDoor.Pr
