import Derived.Test.YtfmajangcbgooaaGreatDoorPr0
import Derived.Test.YtfmajangcbgooaaGreatDoorK0
namespace Go.Proofs.YtfmajangcbgooaaGreatDoor.Pr
open Go.RowKit Go.Proofs.YtfmajangcbgooaaGreatDoorW.PrintWords Go.Proofs.YtfmajangcbgooaaGreatDoorW.PrintLast Go.Proofs.YtfmajangcbgooaaGreatDoorW.PrintMore
attribute [local go_sem] max2_int min2_int max_two min_two max_three min_three max_four min_four
set_option linter.unusedVariables false
set_option maxHeartbeats 64000000
set_option maxRecDepth 100000
set_option linter.unusedSimpArgs false
def origin_Default.f (a : ByteArray) : Option (Int) := if a.toList = ([104, 116, 116, 112] : List UInt8) then (some 80) else (if a.toList = ([104, 116, 116, 112, 115] : List UInt8) then (some 443) else (some 0))
theorem origin_Default.calls (g : ByteArray) (r : Int) (w : World) (h : origin_Default.f g = some r) :
  Calls Tryz.prog 96 #[.string g] w fun e w' => e = .returned (.int .i64 r) ∧ Drawn0 w w' := by
 have H := h; clear h; unfold origin_Default.f at H; revert H; refine iteEF_ (fun a b H => ?g1p) (fun i a b H => ?g1n)
 case' g1p =>
  obtain rfl := si_ H
 case' g1n =>
  revert H; refine iteEF_ (fun c d H => ?g2p) (fun j c d H => ?g2n)
  case' g2p =>
   obtain rfl := si_ H
  case' g2n =>
   obtain rfl := si_ H
 all_goals
  go_enter Tryz.func96, Tryz.ntmps96; go_wp2; go_ret; exact ⟨by first | rfl | (simp; done) | (simp [*]; done) | (simp [*]; generalize ByteArray.toList _ = l_; cases l_ <;> rfl), dE⟩
def octet_digit.f (a : Int) : Option (Bool) := if a ≥ 48 then (some (decide (a ≤ 57))) else (some false)
theorem octet_digit.calls (b : Int) (r : Bool) (w : World) (h : octet_digit.f b = some r) :
  Calls Tryz.prog 170 #[.int .u8 b] w fun e w' => e = .returned (.bool r) ∧ Drawn0 w w' := by
 have H := h; clear h; unfold octet_digit.f at H; revert H; refine iteJJ_ (fun a H => ?g1p) (fun a H => ?g1n)
 case' g1p =>
  obtain rfl := si_ H
 case' g1n =>
  obtain rfl := si_ H
 all_goals
  go_enter Tryz.func170, Tryz.ntmps170; go_wp2; go_ret; exact ⟨by first | rfl | (simp; done) | (simp [*]; done) | (simp [*]; generalize ByteArray.toList _ = l_; cases l_ <;> rfl), dE⟩
def octet_Digits.l0 : Nat → ByteArray → Int → Int → Int → Option (Int × Bool)
 | 0, _, _, _, _ => none
 | k + 1, b, d, e, a => if a < e then (if 0 ≤ a then (if a < (b.size : Int) then ((octet_digit.f (bt b a)).bind fun c => (if c = true then (if d > ((18446744073709551615 - (((bt b a) - 48) % 256)) / 10) then (octet_Digits.l0 k b 18446744073709551615 e (wrap64 (a + 1))) else (octet_Digits.l0 k b (IntKind.u64.wrap ((IntKind.u64.wrap (d * 10)) + (((bt b a) - 48) % 256))) e (wrap64 (a + 1)))) else (some (0, false)))) else (none)) else (none)) else (some (d, (b.toList != ([] : List UInt8))))
def octet_Digits.f (k : Nat) (a : ByteArray) : Option (Int × Bool) := octet_Digits.l0 k a 0 (a.size : Int) 0
theorem octet_Digits.mono_l : ∀ k, (∀ a b c d, LeO (octet_Digits.l0 k a b c d) (octet_Digits.l0 (k + 1) a b c d))
 | 0 => fun _ _ _ _ r h => by simp [octet_Digits.l0] at h
 | k + 1 => by
  have ih0 := octet_Digits.mono_l k
  ·intros
   unfold octet_Digits.l0
   exact moE
theorem octet_Digits.mono : ∀ a k, LeO (octet_Digits.f k a) (octet_Digits.f (k + 1) a) := by
 intro a k
 have ih0 := octet_Digits.mono_l k
 unfold octet_Digits.f
 exact moE
theorem octet_Digits.calls (k : Nat) (b : ByteArray) (t : Int) (u : Bool) (w : World) (h : octet_Digits.f k b = some (t, u)) :
  Calls Tryz.prog 129 #[.string b] w fun e w' => e = .returned (.tuple #[.int .u64 t, .bool u]) ∧ Drawn0 w w' := by
 have H : (octet_Digits.l0 k b 0 (b.size : Int) 0) = some (t, u) := h; clear h; have H' := Aside0.mk H; clear H; go_enter Tryz.func129, Tryz.ntmps129; go_wp2
 go_loopg [4, 9] k (fun kq m n w' => ∃ (c : Int) (a : Int), m = .int .u64 c ∧ n = .int .i64 a ∧ Aside0 (octet_Digits.l0 kq b c (b.size : Int) a = some (t, u)) ∧ Aside0 (kq ≤ k) ∧ Drawn0 w w')
 case atStart => exact ⟨(0), (0), rS, rS, H', ⟨Nat.le_refl _⟩, dE⟩
 case round =>
  clear H'; obtain ⟨c, a, rfl, rfl, HA, l, ⟨J, rfl⟩⟩ := hrel
  cases gk with
  | zero => exact absurd HA.out (by simp [octet_Digits.l0])
  | succ k1 =>
   have H := HA.out; clear HA
   simp only [octet_Digits.l0] at H
   revert H; refine iteDD_ (fun o H => ?g1p) (fun o H => ?g1n)
   case' g1p =>
    revert H; refine iteND_ fun A => iteND_ fun B H => ?_; replace H := bd_ H; obtain ⟨K, D, H⟩ := H; revert H; refine iteB_ (fun v H => ?g2p) (fun v H => ?g2n)
    case' g2p =>
     subst v; revert H; refine iteGG_ (fun p H => ?g3p) (fun p H => ?g3n)
     case' g3p =>
      have H' := Aside0.mk H; clear H; obtain ⟨E, G, y⟩ := btf_ (s := b) (x := a) mE mE; have G4 := trivial; have d := trivial; have q := trivial
     case' g3n =>
      have H' := Aside0.mk H; clear H; obtain ⟨E, G, y⟩ := btf_ (s := b) (x := a) mE mE; have G4 := trivial; have d := trivial; have r := trivial
    case' g2n =>
     subst v
     simp only [Option.some.injEq, Prod.mk.injEq] at H
     obtain ⟨rfl, rfl⟩ := H; obtain ⟨L, M, I⟩ := btf_ (s := b) (x := a) mE mE; have G5 := trivial; have g := trivial
   case' g1n =>
    simp only [Option.some.injEq, Prod.mk.injEq] at H
    obtain ⟨rfl, rfl⟩ := H; have g := trivial
   all_goals
    go_wp2_with (first | (have z_ := G4; clear z_; ((with_reducible refine gate_callee (f := 170) rfl ?_); refine gL _ Tryz.func170 _ ((octet_digit.calls (bt b a) _ _ D.out).mono ?_); rintro e w' ⟨rfl, ⟨nd, rfl⟩⟩; refine ⟨_, rfl, ?_⟩; have i : 0 ≤ (a : Int) := of_decide_eq_true mE; have j : a < (b.size : Int) := of_decide_eq_true mE; have z := bt_at b a; replace i := eq_true i; replace j := eq_true j)) | (have z_ := G5; clear z_; ((with_reducible refine gate_callee (f := 170) rfl ?_); refine gL _ Tryz.func170 _ ((octet_digit.calls (bt b a) _ _ D.out).mono ?_); rintro e w' ⟨rfl, ⟨nd, rfl⟩⟩; refine ⟨_, rfl, ?_⟩)))
    first
    | clear d
      go_roundg k1
      case measure => have := l.out; omega
      first
      | clear q
        case rel => exact ⟨(18446744073709551615), (wrap64 (a + 1)), rS, rS, H', ⟨by have := l.out; omega⟩, dE⟩
      | clear r
        case rel => exact ⟨(IntKind.u64.wrap ((IntKind.u64.wrap (c * 10)) + (((bt b a) - 48) % 256))), (wrap64 (a + 1)), rS, rS, H', ⟨by have := l.out; omega⟩, dE⟩
    | clear g
      go_ret2; exact ⟨by first | rfl | (simp; done) | (simp [*]; done) | (simp [*]; generalize ByteArray.toList _ = l_; cases l_ <;> rfl), dE⟩
def origin_port.f (k : Nat) (b : ByteArray) : Option (Int) := (octet_Digits.f k b).bind fun a => (if a.2 = true then (if (b.size : Int) > 5 then (some 0) else (if 0 < (b.size : Int) then (if (bt b 0) = 48 then (some 0) else (if a.1 > 65535 then (some 0) else (some (wrap64 (a.1))))) else (none))) else (some 0))
theorem origin_port.mono : ∀ a k, LeO (origin_port.f k a) (origin_port.f (k + 1) a) := by
 intro a k
 have b := @octet_Digits.mono; unfold origin_port.f
 exact moE
theorem origin_port.calls (k : Nat) (a : ByteArray) (r : Int) (w : World) (h : origin_port.f k a = some r) :
  Calls Tryz.prog 97 #[.string a] w fun e w' => e = .returned (.int .i64 r) ∧ Below w.heap.size w w' := by
 have HB := Aside0.mk (Below.refl w.heap.size w); have H := h; clear h; unfold origin_port.f at H; replace H := bd_ H; obtain ⟨⟨n, x⟩, s, H⟩ := H; replace H : (if x = true then (if (a.size : Int) > 5 then (some 0) else (if 0 < (a.size : Int) then (if (bt a 0) = 48 then (some 0) else (if n > 65535 then (some 0) else (some (wrap64 (n))))) else (none))) else (some 0)) = some r := H; revert H; refine iteB_ (fun o H => ?g1p) (fun o H => ?g1n)
 case' g1p =>
  subst o; revert H; refine itePP_ (fun c H => ?g2p) (fun c H => ?g2n)
  case' g2p =>
   have d : decide (5 < (a.size : Int)) = true := decide_eq_true c; have g : decide (5 < a.size) = true := decide_eq_true (by omega); clear c; obtain rfl := si_ H; have G6 := trivial
  case' g2n =>
   have d : decide (5 < (a.size : Int)) = false := decide_eq_false c; have g : decide (5 < a.size) = false := decide_eq_false (by omega); clear c; revert H; refine iteNP_ fun t H => ?_; have u := decide_eq_true t; have v : decide (0 < a.size) = true := decide_eq_true (by omega); clear t; revert H; refine iteEF_ (fun i j H => ?g3p) (fun y i j H => ?g3n)
   case' g3p =>
    obtain rfl := si_ H; have G5 := trivial
   case' g3n =>
    revert H; refine iteGG_ (fun l H => ?g4p) (fun l H => ?g4n)
    case' g4p =>
     obtain rfl := si_ H; have G5 := trivial
    case' g4n =>
     obtain rfl := si_ H; have G5 := trivial
 case' g1n =>
  subst o; obtain rfl := si_ H; have G6 := trivial
 all_goals
  go_enter Tryz.func97, Tryz.ntmps97; go_wp2_with (first | (have z_ := G5; clear z_; ((with_reducible refine gate_callee (f := 129) rfl ?_); refine gL _ Tryz.func129 _ ((octet_Digits.calls k a n _ _ s.out).mono ?_); rintro e w' ⟨rfl, ⟨nd, rfl⟩⟩; refine ⟨_, rfl, ?_⟩; have m : 0 ≤ (0 : Int) := (by omega); have b : 0 < a.size := (by have : (0 : Int) < (a.size : Int) := of_decide_eq_true mE; omega); have p : ∀ h : 0 < a.size, ((a[0]'h).toNat : Int) = bt a 0 := bt_at a 0; clear m; have q : (0 < (a.size : Int)) = True := eq_true (of_decide_eq_true mE); replace b := eq_true b)) | (have z_ := G6; clear z_; ((with_reducible refine gate_callee (f := 129) rfl ?_); refine gL _ Tryz.func129 _ ((octet_Digits.calls k a n _ _ s.out).mono ?_); rintro e w' ⟨rfl, ⟨nd, rfl⟩⟩; refine ⟨_, rfl, ?_⟩))); go_ret; exact ⟨rE, bE⟩
mutual
def origin_isLabel.j0 : Nat → ByteArray → Bool → Option (Bool)
 | 0, _, _ => none
 | k + 1, b, a => if a = true then (some false) else (origin_isLabel.l0 k b (b.size : Int) 0)
def origin_isLabel.l0 : Nat → ByteArray → Int → Int → Option (Bool)
 | 0, _, _, _ => none
 | k + 1, b, c, a => if a < c then (if 0 ≤ a then (if a < (b.size : Int) then (if (bt b a) < 97 then (if (bt b a) < 48 then (if (bt b a) = 45 then (origin_isLabel.l0 k b c (wrap64 (a + 1))) else (some false)) else (if (bt b a) > 57 then (if (bt b a) = 45 then (origin_isLabel.l0 k b c (wrap64 (a + 1))) else (some false)) else (origin_isLabel.l0 k b c (wrap64 (a + 1))))) else (if (bt b a) > 122 then (if (bt b a) < 48 then (if (bt b a) = 45 then (origin_isLabel.l0 k b c (wrap64 (a + 1))) else (some false)) else (if (bt b a) > 57 then (if (bt b a) = 45 then (origin_isLabel.l0 k b c (wrap64 (a + 1))) else (some false)) else (origin_isLabel.l0 k b c (wrap64 (a + 1))))) else (origin_isLabel.l0 k b c (wrap64 (a + 1))))) else (none)) else (none)) else (some true)
end
def origin_isLabel.f (k : Nat) (a : ByteArray) : Option (Bool) := if (a.size : Int) < 1 then (origin_isLabel.j0 k a true) else (if (a.size : Int) > 63 then (origin_isLabel.j0 k a true) else (if 0 < (a.size : Int) then (if (bt a 0) = 45 then (origin_isLabel.j0 k a true) else (if 0 ≤ (wrap64 ((a.size : Int) - 1)) then (if (wrap64 ((a.size : Int) - 1)) < (a.size : Int) then (origin_isLabel.j0 k a ((bt a (wrap64 ((a.size : Int) - 1))) == 45)) else (none)) else (none))) else (none)))
theorem origin_isLabel.mono_l : ∀ k, (∀ a b, LeO (origin_isLabel.j0 k a b) (origin_isLabel.j0 (k + 1) a b)) ∧ (∀ a b c, LeO (origin_isLabel.l0 k a b c) (origin_isLabel.l0 (k + 1) a b c))
 | 0 => ⟨fun _ _ r h => by simp [origin_isLabel.j0] at h, fun _ _ _ r h => by simp [origin_isLabel.l0] at h⟩
 | k + 1 => by
  obtain ⟨ih0, ih1⟩ := origin_isLabel.mono_l k
  refine ⟨?_, ?_⟩
  ·intros
   unfold origin_isLabel.j0
   exact moE
  ·intros
   unfold origin_isLabel.l0
   exact moE
theorem origin_isLabel.mono : ∀ a k, LeO (origin_isLabel.f k a) (origin_isLabel.f (k + 1) a) := by
 intro a k
 obtain ⟨ih0, ih1⟩ := origin_isLabel.mono_l k
 unfold origin_isLabel.f
 exact moE
theorem origin_isLabel.calls (k : Nat) (b : ByteArray) (r : Bool) (w : World) (h : origin_isLabel.f k b = some r) :
  Calls Tryz.prog 182 #[.string b] w fun e w' => e = .returned (.bool r) ∧ Drawn0 w w' := by
 have H := h; clear h; unfold origin_isLabel.f at H; have L := Aside0.mk H; clear H; go_enter Tryz.func182, Tryz.ntmps182
 go_upto_region 1 with (first | (fail))
 go_cut [25] (fun a1 wc => ∃ (kq : Nat) (l : Bool), a1 = .bool l ∧ Aside0 (origin_isLabel.j0 kq b l = some r) ∧ Aside0 (kq ≤ k) ∧ Drawn0 w wc)
 case first =>
  have H := L.out; clear L; revert H; refine itePP_ (fun M H => ?g1p) (fun M H => ?g1n)
  case' g1p =>
   have j := decide_eq_true M; have a2 : decide (b.size < 1) = true := decide_eq_true (by omega); clear M; (first | rw [j] | (simp only [i64_w, i32_w]; rw [j]) | skip); have H' := Aside0.mk H; clear H; have p := trivial
  case' g1n =>
   have j := decide_eq_false M; have a2 : decide (b.size < 1) = false := decide_eq_false (by omega); clear M; (first | rw [j] | (simp only [i64_w, i32_w]; rw [j]) | skip); revert H; refine itePP_ (fun O H => ?g2p) (fun O H => ?g2n)
   case' g2p =>
    have q : decide (63 < (b.size : Int)) = true := decide_eq_true O; have t : decide (63 < b.size) = true := decide_eq_true (by omega); clear O; have H' := Aside0.mk H; clear H; have p := trivial
   case' g2n =>
    have q : decide (63 < (b.size : Int)) = false := decide_eq_false O; have t : decide (63 < b.size) = false := decide_eq_false (by omega); clear O; revert H; refine iteNP_ fun c4 H => ?_; have B := decide_eq_true c4; have D : decide (0 < b.size) = true := decide_eq_true (by omega); clear c4; revert H; refine iteEF_ (fun u v H => ?g3p) (fun c5 u v H => ?g3n)
    case' g3p =>
     have H' := Aside0.mk H; clear H; have p6 : 0 ≤ (0 : Int) := (by omega); have q6 : 0 < b.size := (by have : (0 : Int) < (b.size : Int) := of_decide_eq_true mE; omega); have a3 : ∀ h : 0 < b.size, ((b[0]'h).toNat : Int) = bt b 0 := bt_at b 0; clear p6; have a4 : (0 < (b.size : Int)) = True := eq_true (of_decide_eq_true mE); replace q6 := eq_true q6; have p := trivial
    case' g3n =>
     generalize E : (wrap64 ((b.size : Int) - 1)) = a5 at H; have hji6w := (i64_w _).trans E; revert H; refine iteND_ fun G => iteND_ fun I H => ?_; have H' := Aside0.mk H; clear H; have p9 : 0 ≤ (0 : Int) := (by omega); have q9 : 0 < b.size := (by have : (0 : Int) < (b.size : Int) := of_decide_eq_true mE; omega); have hx9 : ∀ h : 0 < b.size, ((b[0]'h).toNat : Int) = bt b 0 := bt_at b 0; clear p9; have qi9 : (0 < (b.size : Int)) = True := eq_true (of_decide_eq_true mE); replace q9 := eq_true q9; obtain ⟨a6, a7, J⟩ := btf_ (s := b) (x := (a5)) mE mE; have a8 := trivial
  all_goals
   go_wp2; go_meet
   first
   | clear p
     case rel => exact ⟨_, (true), rS, H', ⟨oE⟩, dE⟩
   | clear a8
     case rel => exact ⟨_, (((bt b (a5)) == 45)), (by first | rfl | (simp; done) | (simp only [← E] <;> (first | rfl | simp)) | (simp [*]; done)), H', ⟨oE⟩, dE⟩
 case rest =>
  clear L; (try clear M); (try clear O); (try clear q); (try clear t); (try clear c4); (try clear B); (try clear D); (try clear c5); (try clear u); (try clear v); (try clear p6); (try clear q6); (try clear a3); (try clear a4); (try clear G); (try clear I); (try clear a6); (try clear a7); (try clear J); obtain ⟨kq, l, rfl, HA, a9, ⟨mc1, rfl⟩⟩ := hcut
  cases kq with
  | zero => exact absurd HA.out (by simp [origin_isLabel.j0])
  | succ aa =>
   have H := HA.out; clear HA
   simp only [origin_isLabel.j0] at H
   revert H; refine iteB_ (fun y H => ?g5p) (fun y H => ?g5n)
   case' g5p =>
    subst y; obtain rfl := si_ H; have ab := trivial
   case' g5n =>
    subst y; have H' := Aside0.mk H; clear H; have ac := trivial
   all_goals
    go_wp2
    first
    | clear ab
      go_ret; exact ⟨by first | rfl | (simp; done) | (simp [*]; done) | (simp [*]; generalize ByteArray.toList _ = l_; cases l_ <;> rfl), dE⟩
    | clear ac
      go_loopg [28] aa (fun kq ad w' => ∃ (a : Int), ad = .int .i64 a ∧ Aside0 (origin_isLabel.l0 kq b (b.size : Int) a = some r) ∧ Aside0 (kq ≤ aa) ∧ Drawn0 w w')
      case atStart => exact ⟨(0), rS, H', ⟨Nat.le_refl _⟩, dE⟩
      case round =>
       clear H'; (try clear M); (try clear O); (try clear q); (try clear t); (try clear c4); (try clear B); (try clear D); (try clear c5); (try clear u); (try clear v); (try clear p6); (try clear q6); (try clear a3); (try clear a4); (try clear G); (try clear I); (try clear a6); (try clear a7); (try clear J); (try clear y); obtain ⟨a, rfl, HA, ae, ⟨m2, rfl⟩⟩ := hrel
       cases gk with
       | zero => exact absurd HA.out (by simp [origin_isLabel.l0])
       | succ k2 =>
        have H := HA.out; clear HA
        simp only [origin_isLabel.l0] at H
        revert H; refine iteDD_ (fun U H => ?g7p) (fun U H => ?g7n)
        case' g7p =>
         revert H; refine iteND_ fun c13b0 => iteND_ fun c14b0 => iteDD_ (fun W H => ?g8p) (fun W H => ?g8n)
         case' g8p =>
          revert H; refine iteDD_ (fun m H => ?g9p) (fun m H => ?g9n)
          case' g9p =>
           revert H; refine iteEF_ (fun d X H => ?g10p) (fun c17 d X H => ?g10n)
           case' g10p =>
            have H' := Aside0.mk H; clear H; obtain ⟨af, ag, K⟩ := btf_ (s := b) (x := a) mE mE; have c := trivial
           case' g10n =>
            obtain rfl := si_ H; obtain ⟨af, ag, K⟩ := btf_ (s := b) (x := a) mE mE; have g := trivial
          case' g9n =>
           revert H; refine iteGG_ (fun d H => ?g11p) (fun d H => ?g11n)
           case' g11p =>
            revert H; refine iteEF_ (fun i n H => ?g12p) (fun c18 i n H => ?g12n)
            case' g12p =>
             have H' := Aside0.mk H; clear H; obtain ⟨z, A, o⟩ := btf_ (s := b) (x := a) mE mE; have c := trivial
            case' g12n =>
             obtain rfl := si_ H; obtain ⟨z, A, o⟩ := btf_ (s := b) (x := a) mE mE; have g := trivial
           case' g11n =>
            have H' := Aside0.mk H; clear H; obtain ⟨af, ag, K⟩ := btf_ (s := b) (x := a) mE mE; have c := trivial
         case' g8n =>
          revert H; refine iteGG_ (fun m H => ?g13p) (fun m H => ?g13n)
          case' g13p =>
           revert H; refine iteDD_ (fun d H => ?g14p) (fun d H => ?g14n)
           case' g14p =>
            revert H; refine iteEF_ (fun i n H => ?g15p) (fun c18 i n H => ?g15n)
            case' g15p =>
             have H' := Aside0.mk H; clear H; obtain ⟨z, A, o⟩ := btf_ (s := b) (x := a) mE mE; have c := trivial
            case' g15n =>
             obtain rfl := si_ H; obtain ⟨z, A, o⟩ := btf_ (s := b) (x := a) mE mE; have g := trivial
           case' g14n =>
            revert H; refine iteGG_ (fun i H => ?g16p) (fun i H => ?g16n)
            case' g16p =>
             revert H; refine iteEF_ (fun Y Z H => ?g17p) (fun c19 Y Z H => ?g17n)
             case' g17p =>
              have H' := Aside0.mk H; clear H; obtain ⟨p20, q20, ah⟩ := btf_ (s := b) (x := a) mE mE; have c := trivial
             case' g17n =>
              obtain rfl := si_ H; obtain ⟨p20, q20, ah⟩ := btf_ (s := b) (x := a) mE mE; have g := trivial
            case' g16n =>
             have H' := Aside0.mk H; clear H; obtain ⟨z, A, o⟩ := btf_ (s := b) (x := a) mE mE; have c := trivial
          case' g13n =>
           have H' := Aside0.mk H; clear H; obtain ⟨p17, q17, hx17⟩ := btf_ (s := b) (x := a) mE mE; have c := trivial
        case' g7n =>
         obtain rfl := si_ H; have g := trivial
        all_goals
         go_wp2
         first
         | clear c
           go_roundg k2
           case measure => have := a9.out; have := ae.out; omega
           case rel => exact ⟨(wrap64 (a + 1)), rS, H', ⟨by have := a9.out; have := ae.out; omega⟩, dE⟩
         | clear g
           go_ret; exact ⟨by first | rfl | (simp; done) | (simp [*]; done) | (simp [*]; generalize ByteArray.toList _ = l_; cases l_ <;> rfl), dE⟩
end Go.Proofs.YtfmajangcbgooaaGreatDoor.Pr
