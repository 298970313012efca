import Derived.Test.YtfmajangcbgooaaGreatDoorPr0
import Derived.Test.YtfmajangcbgooaaGreatDoorK0
import Derived.Test.YtfmajangcbgooaaGreatDoorPr3
import Derived.Test.YtfmajangcbgooaaGreatDoorG1
import Derived.Test.YtfmajangcbgooaaGreatDoorG3
import Derived.Test.YtfmajangcbgooaaGreatDoorPr5
import Derived.Test.YtfmajangcbgooaaGreatDoorG5
namespace Go.Proofs.YtfmajangcbgooaaGreatDoor.Pr
open Go.RowKit Go.Proofs.YtfmajangcbgooaaGreatDoorW.PrintWords Go.Proofs.YtfmajangcbgooaaGreatDoorW.PrintLast Go.Proofs.YtfmajangcbgooaaGreatDoorW.PrintMore
attribute [local go_sem] max2_int min2_int max_two min_two max_three min_three max_four min_four
set_option linter.unusedVariables false
set_option linter.unusedSimpArgs false
theorem eqA43 (d : Nat) (w : World) (a b : ByteArray) (c e : ByteArray) (g i : Bool) :
  (Op.equalIn (d + 2) 43 (.agg #[.string a, .string c, .bool g]) (.agg #[.string b, .string e, .bool i])).run Tryz.prog w = .ok (a.toList == b.toList && (c.toList == e.toList && (g == i))) w := by
 refine eqA_of Tryz.underlying43 (by kernel_rfl) ?_
 refine eqf_cons (by rfl) (by go_simp; rfl) (by go_simp; rfl) (by go_simp) ?_
 refine eqf_cons (by rfl) (by go_simp; rfl) (by go_simp; rfl) (by go_simp) ?_
 exact eqf_last (by rfl) (by go_simp; rfl) (by go_simp; rfl) (by go_simp)
theorem eqA46 (d : Nat) (w : World) (a b : ByteArray) (c e : ByteArray) (g i : Bool) (j l : ByteArray) (m n : ByteArray) :
  (Op.equalIn (d + 3) 46 (.agg #[.string a, .string c, .bool g, .string j, .string m]) (.agg #[.string b, .string e, .bool i, .string l, .string n])).run Tryz.prog w = .ok ((a.toList == b.toList && (c.toList == e.toList && (g == i))) && (j.toList == l.toList && (m.toList == n.toList))) w := by
 refine eqA_of Tryz.underlying46 (by kernel_rfl) ?_
 refine eqf_cons (by rfl) (by go_simp) (by go_simp) (eqA43 (d + 0) w _ _ _ _ _ _) ?_
 refine eqf_cons (by rfl) (by go_simp; rfl) (by go_simp; rfl) (by go_simp) ?_
 exact eqf_last (by rfl) (by go_simp; rfl) (by go_simp; rfl) (by go_simp)
set_option maxHeartbeats 64000000
set_option maxRecDepth 100000
def octet_letter.f (a : Int) : Option (Bool) := if a ≥ 97 then (if a ≤ 122 then (some true) else (if a ≥ 65 then (some (decide (a ≤ 90))) else (some false))) else (if a ≥ 65 then (some (decide (a ≤ 90))) else (some false))
theorem octet_letter.calls (d : Int) (r : Bool) (w : World) (h : octet_letter.f d = some r) :
  Calls Tryz.prog 183 #[.int .u8 d] w fun e w' => e = .returned (.bool r) ∧ Drawn0 w w' := by
 have H := h; clear h; unfold octet_letter.f at H; revert H; refine iteJJ_ (fun b H => ?g1p) (fun b H => ?g1n)
 case' g1p =>
  revert H; refine iteDD_ (fun a H => ?g2p) (fun a H => ?g2n)
  case' g2p =>
   obtain rfl := si_ H
  case' g2n =>
   revert H; refine iteJJ_ (fun c H => ?g3p) (fun c H => ?g3n)
   case' g3p =>
    obtain rfl := si_ H
   case' g3n =>
    obtain rfl := si_ H
 case' g1n =>
  revert H; refine iteJJ_ (fun a H => ?g4p) (fun a H => ?g4n)
  case' g4p =>
   obtain rfl := si_ H
  case' g4n =>
   obtain rfl := si_ H
 all_goals
  go_enter Tryz.func183, Tryz.ntmps183; go_wp2; go_ret; exact ⟨by first | rfl | (simp; done) | (simp [*]; done) | (simp [*]; generalize ByteArray.toList _ = l_; cases l_ <;> rfl), dE⟩
def octet_Token.l0 : Nat → ByteArray → Int → Int → Option (Bool)
 | 0, _, _, _ => none
 | k + 1, b, g, a => if a < g then (if 0 ≤ a then (if a < (b.size : Int) then ((octet_letter.f (bt b a)).bind fun c => (if c = true then (octet_Token.l0 k b g (wrap64 (a + 1))) else ((octet_digit.f (bt b a)).bind fun d => (if d = true then (octet_Token.l0 k b g (wrap64 (a + 1))) else ((strings_IndexByte.f (⟨#[33, 35, 36, 37, 38, 39, 42, 43, 45, 46, 94, 95, 96, 124, 126]⟩ : ByteArray) (bt b a)).bind fun e => (if e < 0 then (some false) else (octet_Token.l0 k b g (wrap64 (a + 1))))))))) else (none)) else (none)) else (some (b.toList != ([] : List UInt8)))
def octet_Token.f (k : Nat) (a : ByteArray) : Option (Bool) := octet_Token.l0 k a (a.size : Int) 0
theorem octet_Token.mono_l : ∀ k, (∀ a b c, LeO (octet_Token.l0 k a b c) (octet_Token.l0 (k + 1) a b c))
 | 0 => fun _ _ _ r h => by simp [octet_Token.l0] at h
 | k + 1 => by
  have ih0 := octet_Token.mono_l k
  ·intros
   unfold octet_Token.l0
   exact moE
theorem octet_Token.mono : ∀ a k, LeO (octet_Token.f k a) (octet_Token.f (k + 1) a) := by
 intro a k
 have ih0 := octet_Token.mono_l k
 unfold octet_Token.f
 exact moE
theorem octet_Token.calls (k : Nat) (b : ByteArray) (r : Bool) (w : World) (h : octet_Token.f k b = some r) :
  Calls Tryz.prog 146 #[.string b] w fun e w' => e = .returned (.bool r) ∧ Drawn0 w w' := by
 have H : (octet_Token.l0 k b (b.size : Int) 0) = some r := h; clear h; have H' := Aside0.mk H; clear H; go_enter Tryz.func146, Tryz.ntmps146; go_wp2
 go_loopg [6] k (fun kq n w' => ∃ (a : Int), n = .int .i64 a ∧ Aside0 (octet_Token.l0 kq b (b.size : Int) a = some r) ∧ Aside0 (kq ≤ k) ∧ Drawn0 w w')
 case atStart => exact ⟨(0), rS, H', ⟨Nat.le_refl _⟩, dE⟩
 case round =>
  clear H'; obtain ⟨a, rfl, HA, o, ⟨L, rfl⟩⟩ := hrel
  cases gk with
  | zero => exact absurd HA.out (by simp [octet_Token.l0])
  | succ k1 =>
   have H := HA.out; clear HA
   simp only [octet_Token.l0] at H
   revert H; refine iteDD_ (fun p H => ?g1p) (fun p H => ?g1n)
   case' g1p =>
    revert H; refine iteND_ fun B => iteND_ fun D H => ?_; replace H := bd_ H; obtain ⟨M, E, H⟩ := H; revert H; refine iteB_ (fun t H => ?g2p) (fun t H => ?g2n)
    case' g2p =>
     subst t; have H' := Aside0.mk H; clear H; obtain ⟨O, U, I⟩ := btf_ (s := b) (x := a) mE mE; have G6 := trivial; have c := trivial
    case' g2n =>
     subst t; replace H := bd_ H; obtain ⟨W, G, H⟩ := H; revert H; refine iteB_ (fun u H => ?g3p) (fun u H => ?g3n)
     case' g3p =>
      subst u; have H' := Aside0.mk H; clear H; obtain ⟨X, Y, J⟩ := btf_ (s := b) (x := a) mE mE; have G5 := trivial; have G8 := trivial; have c := trivial
     case' g3n =>
      subst u; replace H := bd_ H; obtain ⟨Z, K, H⟩ := H; revert H; refine iteDD_ (fun m H => ?g4p) (fun m H => ?g4n)
      case' g4p =>
       obtain rfl := si_ H; obtain ⟨v, y, q⟩ := btf_ (s := b) (x := a) mE mE; have G5 := trivial; have G7 := trivial; have d := trivial
      case' g4n =>
       have H' := Aside0.mk H; clear H; obtain ⟨v, y, q⟩ := btf_ (s := b) (x := a) mE mE; have G5 := trivial; have G7 := trivial; have c := trivial
   case' g1n =>
    obtain rfl := si_ H; have d := trivial
   all_goals
    go_wp2_with (first | (have z_ := G5; clear z_; ((with_reducible refine gate_callee (f := 183) rfl ?_); refine gL _ Tryz.func183 _ ((octet_letter.calls (bt b a) _ _ E.out).mono ?_); rintro e w' ⟨rfl, ⟨nd, rfl⟩⟩; refine ⟨_, rfl, ?_⟩; have g : 0 ≤ (a : Int) := of_decide_eq_true mE; have i : a < (b.size : Int) := of_decide_eq_true mE; have z := bt_at b a; replace g := eq_true g; replace i := eq_true i)) | (have z_ := G6; clear z_; ((with_reducible refine gate_callee (f := 183) rfl ?_); refine gL _ Tryz.func183 _ ((octet_letter.calls (bt b a) _ _ E.out).mono ?_); rintro e w' ⟨rfl, ⟨nd, rfl⟩⟩; refine ⟨_, rfl, ?_⟩)) | (have z_ := G7; clear z_; (go_at_call 170; (with_reducible refine (octet_digit.calls (bt b a) _ _ G.out).mono ?_); rintro e w' ⟨rfl, ⟨nd, rfl⟩⟩; have j : 0 ≤ (a : Int) := of_decide_eq_true mE; have l : a < (b.size : Int) := of_decide_eq_true mE; have A := bt_at b a; replace j := eq_true j; replace l := eq_true l)) | (have z_ := G8; clear z_; (go_at_call 170; (with_reducible refine (octet_digit.calls (bt b a) _ _ G.out).mono ?_); rintro e w' ⟨rfl, ⟨nd, rfl⟩⟩)) | (go_at_call 141; (with_reducible refine (strings_IndexByte.calls (⟨#[33, 35, 36, 37, 38, 39, 42, 43, 45, 46, 94, 95, 96, 124, 126]⟩ : ByteArray) (bt b a) _ _ K.out).mono ?_); rintro e w' ⟨rfl, ⟨nd, rfl⟩⟩))
    first
    | clear c
      go_roundg k1
      case measure => have := o.out; omega
      case rel => exact ⟨(wrap64 (a + 1)), rS, H', ⟨by have := o.out; omega⟩, dE⟩
    | clear d
      go_ret; exact ⟨by first | rfl | (simp; done) | (simp [*]; done) | (simp [*]; generalize ByteArray.toList _ = l_; cases l_ <;> rfl), dE⟩
def octet_Fold.f (c d : ByteArray) : Option (Bool) := (octet_Lower.f c).bind fun a => ((octet_Lower.f d).bind fun b => (some (a.toList == b.toList)))
theorem octet_Fold.calls (a b : ByteArray) (r : Bool) (w : World) (h : octet_Fold.f a b = some r) :
  Calls Tryz.prog 70 #[.string a, .string b] w fun e w' => e = .returned (.bool r) ∧ Below w.heap.size w w' := by
 have HB := Aside0.mk (Below.refl w.heap.size w); have H := h; clear h; unfold octet_Fold.f at H; replace H := bd_ H; obtain ⟨g, i, H⟩ := H; replace H := bd_ H; obtain ⟨j, l, H⟩ := H; obtain rfl := si_ H; go_enter Tryz.func70, Tryz.ntmps70; go_wp2_with (first | ((with_reducible refine gate_callee (f := 95) rfl ?_); refine gL _ Tryz.func95 _ ((octet_Lower.calls a g _ i.out).mono ?_); rintro e c ⟨rfl, hb⟩; refine ⟨_, rfl, ?_⟩; replace HB := bS bE hb; (try clear hb)) | ((with_reducible refine gate_callee (f := 95) rfl ?_); refine gL _ Tryz.func95 _ ((octet_Lower.calls b j _ l.out).mono ?_); rintro e d ⟨rfl, hb⟩; refine ⟨_, rfl, ?_⟩; replace HB := bS bE hb; (try clear hb))); go_ret; exact ⟨rE, bE⟩
def method_Bars.f (d : ByteArray) : Option (Bool) := (octet_Fold.f d (⟨#[67, 79, 78, 78, 69, 67, 84]⟩ : ByteArray)).bind fun a => (if a = true then (some true) else ((octet_Fold.f d (⟨#[84, 82, 65, 67, 69]⟩ : ByteArray)).bind fun b => (if b = true then (some true) else ((octet_Fold.f d (⟨#[84, 82, 65, 67, 75]⟩ : ByteArray)).bind fun c => (some c)))))
theorem method_Bars.calls (a : ByteArray) (r : Bool) (w : World) (h : method_Bars.f a = some r) :
  Calls Tryz.prog 147 #[.string a] w fun e w' => e = .returned (.bool r) ∧ Below w.heap.size w w' := by
 have HB := Aside0.mk (Below.refl w.heap.size w); have H := h; clear h; unfold method_Bars.f at H; replace H := bd_ H; obtain ⟨n, j, H⟩ := H; revert H; refine iteB_ (fun b H => ?g1p) (fun b H => ?g1n)
 case' g1p =>
  subst b; obtain rfl := si_ H
 case' g1n =>
  subst b; replace H := bd_ H; obtain ⟨o, l, H⟩ := H; revert H; refine iteB_ (fun c H => ?g2p) (fun c H => ?g2n)
  case' g2p =>
   subst c; obtain rfl := si_ H
  case' g2n =>
   subst c; replace H := bd_ H; obtain ⟨p, m, H⟩ := H; obtain rfl := si_ H
 all_goals
  go_enter Tryz.func147, Tryz.ntmps147; go_wp2_with (first | ((with_reducible refine gate_callee (f := 70) rfl ?_); refine gL _ Tryz.func70 _ ((octet_Fold.calls a (⟨#[67, 79, 78, 78, 69, 67, 84]⟩ : ByteArray) _ _ j.out).mono ?_); rintro e d ⟨rfl, hb⟩; refine ⟨_, rfl, ?_⟩; replace HB := bS bE hb; (try clear hb)) | (go_at_call 70; (with_reducible refine (octet_Fold.calls a (⟨#[84, 82, 65, 67, 69]⟩ : ByteArray) _ _ l.out).mono ?_); rintro e g ⟨rfl, hb⟩; replace HB := bS bE hb; (try clear hb)) | (go_at_call 70; (with_reducible refine (octet_Fold.calls a (⟨#[84, 82, 65, 67, 75]⟩ : ByteArray) _ _ m.out).mono ?_); rintro e i ⟨rfl, hb⟩; replace HB := bS bE hb; (try clear hb))); go_ret; exact ⟨rE, bE⟩
def method_Check.f (k : Nat) (c : ByteArray) : Option (Int) := (octet_Token.f k c).bind fun a => (if a = true then (if (c.size : Int) > 32 then (some 5) else ((method_Bars.f c).bind fun b => (if b = true then (some 5) else (some 0)))) else (some 5))
theorem method_Check.mono : ∀ a k, LeO (method_Check.f k a) (method_Check.f (k + 1) a) := by
 intro a k
 have b := @octet_Token.mono; unfold method_Check.f
 exact moE
theorem method_Check.calls (k : Nat) (a : ByteArray) (r : Int) (w : World) (h : method_Check.f k a = some r) :
  Calls Tryz.prog 99 #[.string a] w fun e w' => e = .returned (.int .i64 r) ∧ Below w.heap.size w w' := by
 have HB := Aside0.mk (Below.refl w.heap.size w); have H := h; clear h; unfold method_Check.f at H; replace H := bd_ H; obtain ⟨n, l, H⟩ := H; revert H; refine iteB_ (fun g H => ?g1p) (fun g H => ?g1n)
 case' g1p =>
  subst g; revert H; refine itePP_ (fun b H => ?g2p) (fun b H => ?g2n)
  case' g2p =>
   have c : decide (32 < (a.size : Int)) = true := decide_eq_true b; have d : decide (32 < a.size) = true := decide_eq_true (by omega); clear b; obtain rfl := si_ H
  case' g2n =>
   have c : decide (32 < (a.size : Int)) = false := decide_eq_false b; have d : decide (32 < a.size) = false := decide_eq_false (by omega); clear b; replace H := bd_ H; obtain ⟨o, m, H⟩ := H; revert H; refine iteB_ (fun i H => ?g3p) (fun i H => ?g3n)
   case' g3p =>
    subst i; obtain rfl := si_ H
   case' g3n =>
    subst i; obtain rfl := si_ H
 case' g1n =>
  subst g; obtain rfl := si_ H
 all_goals
  go_enter Tryz.func99, Tryz.ntmps99; go_wp2_with (first | ((with_reducible refine gate_callee (f := 146) rfl ?_); refine gL _ Tryz.func146 _ ((octet_Token.calls k a _ _ l.out).mono ?_); rintro e w' ⟨rfl, ⟨nd, rfl⟩⟩; refine ⟨_, rfl, ?_⟩) | (go_at_call 147; (with_reducible refine (method_Bars.calls a _ _ m.out).mono ?_); rintro e j ⟨rfl, hb⟩; replace HB := bS bE hb; (try clear hb))); go_ret; exact ⟨rE, bE⟩
def ask_isMode.f (a : Int) : Option (Bool) := if a = 1 then (some true) else (if a = 2 then (some true) else (some (a == 3)))
theorem ask_isMode.calls (g : Int) (r : Bool) (w : World) (h : ask_isMode.f g = some r) :
  Calls Tryz.prog 100 #[.int .i64 g] w fun e w' => e = .returned (.bool r) ∧ Drawn0 w w' := by
 have H := h; clear h; unfold ask_isMode.f at H; revert H; refine iteEF_ (fun a b H => ?g1p) (fun i a b H => ?g1n)
 case' g1p =>
  obtain rfl := si_ H
 case' g1n =>
  revert H; refine iteEF_ (fun c d H => ?g2p) (fun j c d H => ?g2n)
  case' g2p =>
   obtain rfl := si_ H
  case' g2n =>
   obtain rfl := si_ H
 all_goals
  go_enter Tryz.func100, Tryz.ntmps100; go_wp2; go_ret; exact ⟨by first | rfl | (simp; done) | (simp [*]; done) | (simp [*]; generalize ByteArray.toList _ = l_; cases l_ <;> rfl), dE⟩
def octet_blank.f (b : Int) : Option (Bool) := (strings_IndexByte.f (⟨#[9, 10, 13, 32]⟩ : ByteArray) b).bind fun a => (some (decide (a ≥ 0)))
theorem octet_blank.calls (a : Int) (r : Bool) (w : World) (h : octet_blank.f a = some r) :
  Calls Tryz.prog 131 #[.int .u8 a] w fun e w' => e = .returned (.bool r) ∧ Drawn0 w w' := by
 have H := h; clear h; unfold octet_blank.f at H; replace H := bd_ H; obtain ⟨b, c, H⟩ := H; obtain rfl := si_ H; go_enter Tryz.func131, Tryz.ntmps131; go_wp2_with (first | ((with_reducible refine gate_callee (f := 141) rfl ?_); refine gL _ Tryz.func141 _ ((strings_IndexByte.calls (⟨#[9, 10, 13, 32]⟩ : ByteArray) a b _ c.out).mono ?_); rintro e w' ⟨rfl, ⟨nd, rfl⟩⟩; refine ⟨_, rfl, ?_⟩)); go_ret; exact ⟨by first | rfl | (simp; done) | (simp [*]; done) | (simp [*]; generalize ByteArray.toList _ = l_; cases l_ <;> rfl), dE⟩
mutual
def octet_Trim.j1 : Nat → ByteArray → Option (ByteArray)
 | 0, _ => none
 | k + 1, a => octet_Trim.l1 k a
def octet_Trim.l1 : Nat → ByteArray → Option (ByteArray)
 | 0, _ => none
 | k + 1, a => if a.toList = ([] : List UInt8) then (some a) else (if 0 ≤ (wrap64 ((a.size : Int) - 1)) then (if (wrap64 ((a.size : Int) - 1)) < (a.size : Int) then ((octet_blank.f (bt a (wrap64 ((a.size : Int) - 1)))).bind fun b => (if b = true then (if (wrap64 ((a.size : Int) - 1)) ≤ (a.size : Int) then (octet_Trim.l1 k (a.extract 0 ((wrap64 ((a.size : Int) - 1)) : Int).toNat)) else (none)) else (some a))) else (none)) else (none))
def octet_Trim.l0 : Nat → ByteArray → Option (ByteArray)
 | 0, _ => none
 | k + 1, a => if a.toList = ([] : List UInt8) then (octet_Trim.j1 k a) else (if 0 < (a.size : Int) then ((octet_blank.f (bt a 0)).bind fun b => (if b = true then (if 1 ≤ (a.size : Int) then (octet_Trim.l0 k (a.extract 1 a.size)) else (none)) else (octet_Trim.j1 k a))) else (none))
end
def octet_Trim.f (k : Nat) (a : ByteArray) : Option (ByteArray) := octet_Trim.l0 k a
theorem octet_Trim.mono_l : ∀ k, (∀ a, LeO (octet_Trim.j1 k a) (octet_Trim.j1 (k + 1) a)) ∧ (∀ a, LeO (octet_Trim.l1 k a) (octet_Trim.l1 (k + 1) a)) ∧ (∀ a, LeO (octet_Trim.l0 k a) (octet_Trim.l0 (k + 1) a))
 | 0 => ⟨fun _ r h => by simp [octet_Trim.j1] at h, fun _ r h => by simp [octet_Trim.l1] at h, fun _ r h => by simp [octet_Trim.l0] at h⟩
 | k + 1 => by
  obtain ⟨ih0, ih1, ih2⟩ := octet_Trim.mono_l k
  refine ⟨?_, ?_, ?_⟩
  ·intro a
   unfold octet_Trim.j1
   exact moE
  ·intro a
   unfold octet_Trim.l1
   exact moE
  ·intro a
   unfold octet_Trim.l0
   exact moE
theorem octet_Trim.mono : ∀ a k, LeO (octet_Trim.f k a) (octet_Trim.f (k + 1) a) := by
 intro a k
 obtain ⟨ih0, ih1, ih2⟩ := octet_Trim.mono_l k
 unfold octet_Trim.f
 exact moE
theorem octet_Trim.calls (k : Nat) (L r : ByteArray) (w : World) (h : octet_Trim.f k L = some r) :
  Calls Tryz.prog 77 #[.string L] w fun e w' => e = .returned (.string r) ∧ Drawn0 w w' := by
 have H : (octet_Trim.l0 k L) = some r := h; clear h; have t := Aside0.mk H; clear H; go_enter Tryz.func77, Tryz.ntmps77
 go_upto_block 0 with (first | (fail))
 go_cut [0] (fun d wc => ∃ (kq : Nat) (a : ByteArray), d = .string a ∧ Aside0 (octet_Trim.j1 kq a = some r) ∧ Aside0 (kq ≤ k) ∧ Drawn0 w wc)
 case first =>
  have H := t.out; clear t; have H' := Aside0.mk H; clear H; go_wp2
  go_loopg [0] k (fun kq d w' => ∃ (a : ByteArray), d = .string a ∧ Aside0 (octet_Trim.l0 kq a = some r) ∧ Aside0 (kq ≤ k) ∧ Drawn0 w w')
  case atStart => exact ⟨(L), rS, H', ⟨Nat.le_refl _⟩, dE⟩
  case round =>
   clear H'; obtain ⟨a, rfl, HA, u, ⟨m1, rfl⟩⟩ := hrel
   cases gk with
   | zero => exact absurd HA.out (by simp [octet_Trim.l0])
   | succ k1 =>
    have H := HA.out; clear HA
    simp only [octet_Trim.l0] at H
    revert H; refine iteEF_ (fun c g H => ?g1p) (fun c2 c g H => ?g1n)
    case' g1p =>
     (first | rw [c] | (simp only [i64_w, i32_w]; rw [c]) | skip); have H' := Aside0.mk H; clear H; have l := trivial
    case' g1n =>
     (first | rw [c] | (simp only [i64_w, i32_w]; rw [c]) | skip); revert H; refine iteNP_ fun M H => ?_; have m := decide_eq_true M; have n : decide (0 < a.size) = true := decide_eq_true (by omega); clear M; replace H := bd_ H; obtain ⟨t1, A4, H⟩ := H; revert H; refine iteB_ (fun y H => ?g2p) (fun y H => ?g2n)
     case' g2p =>
      subst y; revert H; refine iteNT_ fun o p H => ?_; have H' := Aside0.mk H; clear H; have p7 : 0 ≤ (0 : Int) := (by omega); have q7 : 0 < a.size := (by have : (0 : Int) < (a.size : Int) := of_decide_eq_true mE; omega); have hx7 : ∀ h : 0 < a.size, ((a[0]'h).toNat : Int) = bt a 0 := bt_at a 0; clear p7; have qi7 : (0 < (a.size : Int)) = True := eq_true (of_decide_eq_true mE); replace q7 := eq_true q7; have z := trivial
     case' g2n =>
      subst y; have H' := Aside0.mk H; clear H; have p6 : 0 ≤ (0 : Int) := (by omega); have q6 : 0 < a.size := (by have : (0 : Int) < (a.size : Int) := of_decide_eq_true mE; omega); have hx6 : ∀ h : 0 < a.size, ((a[0]'h).toNat : Int) = bt a 0 := bt_at a 0; clear p6; have qi6 : (0 < (a.size : Int)) = True := eq_true (of_decide_eq_true mE); replace q6 := eq_true q6; have l := trivial
    all_goals
     go_wp2_with (first | (go_at_call 131; (with_reducible refine (octet_blank.calls (bt a 0) _ _ A4.out).mono ?_); rintro e w' ⟨rfl, ⟨nd, rfl⟩⟩))
     first
     | clear l
       go_meet
       case rel => exact ⟨_, (a), rS, H', ⟨by have := u.out; first | omega | exact Nat.le_refl _⟩, dE⟩
     | clear z
       go_roundg k1
       case measure => have := u.out; omega
       case rel => exact ⟨(a.extract 1 a.size), rS, H', ⟨by have := u.out; omega⟩, dE⟩
 case rest =>
  clear t; (try clear c2); (try clear c); (try clear g); (try clear M); (try clear m); (try clear n); (try clear y); (try clear o); (try clear p); obtain ⟨kq, a, rfl, HA, A, ⟨mc1, rfl⟩⟩ := hcut
  cases kq with
  | zero => exact absurd HA.out (by simp [octet_Trim.j1])
  | succ B =>
   have H := HA.out; clear HA
   simp only [octet_Trim.j1] at H
   have H' := Aside0.mk H; clear H; go_wp2
   go_loopg [0] B (fun kq d w' => ∃ (b : ByteArray), d = .string b ∧ Aside0 (octet_Trim.l1 kq b = some r) ∧ Aside0 (kq ≤ B) ∧ Drawn0 w w')
   case atStart => exact ⟨(a), rS, H', ⟨Nat.le_refl _⟩, dE⟩
   case round =>
    clear H'; (try clear c2); (try clear c); (try clear g); (try clear M); (try clear m); (try clear n); (try clear y); (try clear o); (try clear p); obtain ⟨b, rfl, HA, D, ⟨m2, rfl⟩⟩ := hrel
    cases gk with
    | zero => exact absurd HA.out (by simp [octet_Trim.l1])
    | succ k2 =>
     have H := HA.out; clear HA
     simp only [octet_Trim.l1] at H
     revert H; refine iteEF_ (fun E G H => ?g4p) (fun c8 E G H => ?g4n)
     case' g4p =>
      obtain rfl := si_ H; have q := trivial; have I := trivial
     case' g4n =>
      generalize i : (wrap64 ((b.size : Int) - 1)) = j at H; have O := (i64_w _).trans i; revert H; refine iteND_ fun U => iteND_ fun W H => ?_; replace H := bd_ H; obtain ⟨t1, X, H⟩ := H; revert H; refine iteB_ (fun v H => ?g5p) (fun v H => ?g5n)
      case' g5p =>
       subst v; have Y := eq_true (of_decide_eq_true mE : 0 ≤ (j)); revert H; refine iteNT_ fun Z a1 H => ?_; have H' := Aside0.mk H; clear H; obtain ⟨p16, q16, hx16⟩ := btf_ (s := b) (x := (j)) mE mE; have J := trivial
      case' g5n =>
       subst v; obtain rfl := si_ H; obtain ⟨p14, q14, hx14⟩ := btf_ (s := b) (x := (j)) mE mE; have q := trivial; have K := trivial
     all_goals
      go_wp2_with (first | (go_at_call 131; (with_reducible refine (octet_blank.calls (bt b (j)) _ _ X.out).mono ?_); rintro e w' ⟨rfl, ⟨nd, rfl⟩⟩))
      first
      | clear q
        go_ret
        first
        | clear I
          exact ⟨by first | rfl | (simp; done) | (simp [*]; done) | (simp [*]; generalize ByteArray.toList _ = l_; cases l_ <;> rfl), dE⟩
        | clear K
          exact ⟨by first | rfl | (simp; done) | (simp only [← i] <;> (first | rfl | simp)) | (simp [*]; done), dE⟩
      | clear J
        go_roundg k2
        case measure => have := A.out; have := D.out; omega
        case rel => exact ⟨(b.extract 0 ((j) : Int).toNat), (by first | rfl | (simp; done) | (simp only [← i] <;> (first | rfl | simp)) | (simp [*]; done)), H', ⟨by have := A.out; have := D.out; omega⟩, dE⟩
def header_isHeader.f (k : Nat) (a c : ByteArray) : Option (Bool) := (octet_Trim.f k c).bind fun b => ((octet_Token.f k a).bind fun d => (if d = true then (if (a.size : Int) ≤ 64 then (if (b.size : Int) ≤ 4096 then ((strings_ContainsAny.f b (⟨#[0, 10, 13]⟩ : ByteArray)).bind fun e => (some (!e))) else (some false)) else (some false)) else (some false)))
theorem header_isHeader.mono : ∀ a b k, LeO (header_isHeader.f k a b) (header_isHeader.f (k + 1) a b) := by
 intro a b k
 have c := @octet_Token.mono; have d := @octet_Trim.mono; unfold header_isHeader.f
 exact moE
theorem header_isHeader.calls (k : Nat) (a c : ByteArray) (r : Bool) (w : World) (h : header_isHeader.f k a c = some r) :
  Calls Tryz.prog 148 #[.agg #[.string a, .string c]] w fun e w' => e = .returned (.bool r) ∧ Below w.heap.size w w' := by
 have z := Tryz.underlying28; have HB := Aside0.mk (Below.refl w.heap.size w); have H := h; clear h; unfold header_isHeader.f at H; replace H := bd_ H; obtain ⟨u, D, H⟩ := H; replace H := bd_ H; obtain ⟨I, E, H⟩ := H; revert H; refine iteB_ (fun v H => ?g1p) (fun v H => ?g1n)
 case' g1p =>
  subst v; revert H; refine itePP_ (fun g H => ?g2p) (fun g H => ?g2n)
  case' g2p =>
   have i := decide_eq_true g; have j : decide (a.size ≤ 64) = true := decide_eq_true (by omega); clear g; revert H; refine itePP_ (fun l H => ?g3p) (fun l H => ?g3n)
   case' g3p =>
    have m := decide_eq_true l; have n : decide (u.size ≤ 4096) = true := decide_eq_true (by omega); clear l; replace H := bd_ H; obtain ⟨J, G, H⟩ := H; obtain rfl := si_ H
   case' g3n =>
    have m := decide_eq_false l; have n : decide (u.size ≤ 4096) = false := decide_eq_false (by omega); clear l; obtain rfl := si_ H
  case' g2n =>
   have i := decide_eq_false g; have j : decide (a.size ≤ 64) = false := decide_eq_false (by omega); clear g; obtain rfl := si_ H
 case' g1n =>
  subst v; obtain rfl := si_ H
 all_goals
  go_enter Tryz.func148, Tryz.ntmps148; go_wp2_with (first | ((with_reducible refine gate_dst (N := 1) rfl ?_); (try (refine gate_guard (by rfl) ?_; dsimp only)); refine bxE (N := 1) (cs := #[.string a, .string c]) (t := 28) fun x hg A hbox hb => ?_; obtain ⟨HB', b, d⟩ := bx_ bE hg hbox hb; have y := d; clear HB hb hbox hg; have HB := HB'; clear HB'; obtain ⟨q, s, o, p⟩ := bk2_ b) | ((with_reducible refine gate_callee (f := 77) rfl ?_); refine gL _ Tryz.func77 _ ((octet_Trim.calls k c _ _ D.out).mono ?_); rintro e w' ⟨rfl, ⟨nd, rfl⟩⟩; refine ⟨_, rfl, ?_⟩) | ((with_reducible refine gate_callee (f := 146) rfl ?_); refine gL _ Tryz.func146 _ ((octet_Token.calls k a _ _ E.out).mono ?_); rintro e w' ⟨rfl, ⟨nd, rfl⟩⟩; refine ⟨_, rfl, ?_⟩) | (go_at_call 184; (with_reducible refine (strings_ContainsAny.calls u (⟨#[0, 10, 13]⟩ : ByteArray) _ _ G.out).mono ?_); rintro e B ⟨rfl, hb⟩; replace b := kM b hb; replace HB := bS bE hb; (try clear hb))); go_ret; exact ⟨rE, bE⟩
theorem eqA70 (d : Nat) (w : World) (a b : ByteArray) (c e : ByteArray) (g i : Int) :
  (Op.equalIn (d + 2) 70 (.agg #[.string a, .string c, .int .i64 g]) (.agg #[.string b, .string e, .int .i64 i])).run Tryz.prog w = .ok (a.toList == b.toList && (c.toList == e.toList && (g == i))) w := by
 refine eqA_of Tryz.underlying70 (by kernel_rfl) ?_
 refine eqf_cons (by rfl) (by go_simp; rfl) (by go_simp; rfl) (by go_simp) ?_
 refine eqf_cons (by rfl) (by go_simp; rfl) (by go_simp; rfl) (by go_simp) ?_
 exact eqf_last (by rfl) (by go_simp; rfl) (by go_simp; rfl) (by go_simp)
set_option maxHeartbeats 64000000
set_option maxRecDepth 100000
def target_show.f (k : Nat) (d e : ByteArray) (g : Int) (a c : ByteArray) : Option (ByteArray) := (origin_Show.f k d e g).bind fun b => (if b.size + a.size ≤ 9223372036854775807 then (if (b ++ a).size + c.size ≤ 9223372036854775807 then (some ((b ++ a) ++ c)) else (none)) else (none))
theorem target_show.mono : ∀ a b c d e k, LeO (target_show.f k a b c d e) (target_show.f (k + 1) a b c d e) := by
 intro a b c d e k
 have g := @origin_Show.mono; unfold target_show.f
 exact moE
def target_show.T1 : Bool × List (List Nat × List Nat) := (true, [([], []), ([0], [0]), ([1], [1]), ([], []), ([3], [3]), ([2, 4], [2, 4]), ([], []), ([6], [6]), ([5, 7], [5, 7]), ([8, 2, 0, 1, 2, 3, 4, 5, 6, 7, 8], [8])])
def target_show.B1 : List Nat := [0, 1, 3, 0, 8, 31, 0, 64, 255, 511]
theorem target_show.tab1 : rtab .any (opsOf Tryz.f94 1) = target_show.T1 := by kernel_rfl
theorem target_show.bits1 : waitsOk target_show.T1.2 target_show.B1 = true := by kernel_rfl
theorem target_show.calls (k : Nat) (d g : ByteArray) (i : Int) (b j r : ByteArray) (w : World) (hM_ : Aside0 (LaidW w)) (h : target_show.f k d g i b j = some r) :
  Calls Tryz.prog 94 #[.agg #[.string d, .string g, .int .i64 i, .string b, .string j]] w fun e w' => e = .returned (.string r) ∧ Below w.heap.size w w' := by
 have y := Tryz.underlying72; have z := Tryz.underlying70; have HB := Aside0.mk (Below.refl w.heap.size w); have H := h; clear h; unfold target_show.f at H; replace H := bd_ H; obtain ⟨q, L, H⟩ := H; revert H; refine iteNP_ fun s H => ?_; have A := eq_true s; have B := decide_eq_true s
 try have D : (9223372036854775807 < q.size + b.size) = False := eq_false (Nat.not_lt.2 s)
 revert H; refine iteNP_ fun m H => ?_
 try (have o := m; simp only [ByteArray.size_append, Int.natCast_add] at o)
 have E := eq_true m; have G := decide_eq_true m
 try have I : (9223372036854775807 < (q ++ b).size + j.size) = False := eq_false (Nat.not_lt.2 m)
 try have J : (9223372036854775807 < q.size + b.size + j.size) = False := eq_false (Nat.not_lt.2 (by have z_ := m; simp only [ByteArray.size_append] at z_; first | exact z_ | simpa using z_))
 obtain rfl := si_ H; go_enter Tryz.func94, Tryz.ntmps94
 try go_wp2_with (first | ((with_reducible refine gate_dst (N := 1) rfl ?_); refine bxE (N := 1) (cs := #[.string d, .string g, .int .i64 i, .string b, .string j]) (t := 72) fun c hg p hbox hb => ?_; obtain ⟨HB', a, l⟩ := bx_ bE hg hbox hb; have u := l; clear HB hb hbox hg; have HB := HB'; clear HB'))
 have n0_ := Aside0.mk (blk_drew a.out); have n1_ := Aside0.mk (below_drew1 HB.out); clear a; clear HB; have a := n0_; have HB := n1_; clear n0_ n1_; refine start_ (n := 10) (S := fun w' => w'.cell? ⟨c, 0, none⟩ = some (.string d) ∧ w'.cell? ⟨c, 1, none⟩ = some (.string g) ∧ w'.cell? ⟨c, 2, none⟩ = some (.int .i64 i) ∧ w'.cell? ⟨c, 3, none⟩ = some (.string b) ∧ w'.cell? ⟨c, 4, none⟩ = some (.string j)) (ds := []) (bz 10 0) (by kernel_rfl) rfl rfl (bkc5_ a) (fun hHeld => ?_); refine with_tabW target_show.tab1 target_show.bits1 (fun HT_ HW_ => ?_); generalize p.drew = v at a HB hHeld ⊢; refine qA 0 3 10 1 ?_; refine qA 3 6 10 9 ?_; refine qA 6 9 10 73 ?_; refine tA5 1 4 10 75 ?_; refine tA5 4 7 10 91 ?_; refine tA5 7 10 10 219 ?_; refine oB 2 5 10 223 fun K hK => ?_; refine gS Tryz.func59 #[.agg #[.string d, .string g, .int .i64 i]] ?_
 with_reducible refine (origin_Show.calls k d g i q _ ?side1 L.out).mono ?_
 (case side1 => exact ⟨lE⟩); rintro e x ⟨rfl, hb⟩; refine ⟨_, rfl, ?_⟩; replace a := kM a hb; replace HB := bS bE hb; (try clear hb); refine hK.out _ _ (bkc5_ a) (fun hHeld => ?_); clear hK K; refine nA 5 ?_; refine qA 5 8 10 255 ?_; refine qA 8 11 10 511 ?_; refine qA 9 2 10 1023 ?_; refine done_ (done_of HT_.out (by kernel_rfl)) ?_
 try go_wp2
 go_ret; exact ⟨rE, bE⟩
end Go.Proofs.YtfmajangcbgooaaGreatDoor.Pr

