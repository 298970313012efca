import Derived.Test.YtfmajangcbgooaaGreatDoorPr0
import Derived.Test.YtfmajangcbgooaaGreatDoorK0
import Derived.Test.YtfmajangcbgooaaGreatDoorPr16
import Derived.Test.YtfmajangcbgooaaGreatDoorPr21
import Derived.Test.YtfmajangcbgooaaGreatDoorG1
import Derived.Test.YtfmajangcbgooaaGreatDoorPr14
import Derived.Test.YtfmajangcbgooaaGreatDoorPr19
namespace Go.Proofs.YtfmajangcbgooaaGreatDoor.Pr
open Go.RowKit Go.Proofs.YtfmajangcbgooaaGreatDoorW.PrintWords Go.Proofs.YtfmajangcbgooaaGreatDoorW.PrintLast Go.Proofs.YtfmajangcbgooaaGreatDoorW.PrintMore
attribute [local go_sem] max2_int min2_int max_two min_two max_three min_three max_four min_four
set_option linter.unusedVariables false
set_option maxHeartbeats 64000000
set_option maxRecDepth 100000
set_option linter.unusedSimpArgs false
def lockkeeperref7_Byte.f (k : Nat) (b : Int) : Option (Bool) := if b = 9 then (some true) else (if b ≥ 32 then (if b = 127 then (some false) else ((lockkeeperref1_In.f k b (⟨#[34, 40, 41, 58, 60, 62, 63, 64, 91, 92, 93, 123, 125]⟩ : ByteArray)).bind fun a => (some (!a)))) else (some false))
theorem lockkeeperref7_Byte.mono : ∀ a k, LeO (lockkeeperref7_Byte.f k a) (lockkeeperref7_Byte.f (k + 1) a) := by
 intro a k
 have b := @lockkeeperref1_In.mono; unfold lockkeeperref7_Byte.f
 exact moE
theorem lockkeeperref7_Byte.calls (k : Nat) (i : Int) (r : Bool) (w : World) (h : lockkeeperref7_Byte.f k i = some r) :
  Calls Tryz.prog 185 #[.int .u8 i] w fun e w' => e = .returned (.bool r) ∧ Drawn0 w w' := by
 have H := h; clear h; unfold lockkeeperref7_Byte.f at H; revert H; refine iteEF_ (fun a b H => ?g1p) (fun l a b H => ?g1n)
 case' g1p =>
  obtain rfl := si_ H
 case' g1n =>
  revert H; refine iteJJ_ (fun c H => ?g2p) (fun c H => ?g2n)
  case' g2p =>
   revert H; refine iteEF_ (fun d g H => ?g3p) (fun m d g H => ?g3n)
   case' g3p =>
    obtain rfl := si_ H
   case' g3n =>
    replace H := bd_ H; obtain ⟨n, j, H⟩ := H; obtain rfl := si_ H
  case' g2n =>
   obtain rfl := si_ H
 all_goals
  go_enter Tryz.func185, Tryz.ntmps185; go_wp2_with (first | (go_at_call 114; (with_reducible refine (lockkeeperref1_In.calls k i (⟨#[34, 40, 41, 58, 60, 62, 63, 64, 91, 92, 93, 123, 125]⟩ : ByteArray) _ _ j.out).mono ?_); rintro e w' ⟨rfl, ⟨nd, rfl⟩⟩)); go_ret; exact ⟨rS, dE⟩
def lockkeeperref7_each.l0 : Nat → ByteArray → Bool → Int → Option (Bool)
 | 0, _, _, _ => none
 | k + 1, b, g, a => if a < (b.size : Int) then (if g = true then (if 0 ≤ a then ((lockkeeperref1_Plain.f (bt b a)).bind fun c => (if c = true then (lockkeeperref7_each.l0 k b g (wrap64 (a + 1))) else ((lockkeeperref1_In.f k (bt b a) (⟨#[32, 42, 44, 45, 46, 59, 61]⟩ : ByteArray)).bind fun d => (if d = true then (lockkeeperref7_each.l0 k b g (wrap64 (a + 1))) else (some false))))) else (none)) else (if 0 ≤ a then ((lockkeeperref7_Byte.f k (bt b a)).bind fun e => (if e = true then (lockkeeperref7_each.l0 k b g (wrap64 (a + 1))) else (some false))) else (none))) else (some true)
def lockkeeperref7_each.f (k : Nat) (a : ByteArray) (b : Bool) : Option (Bool) := lockkeeperref7_each.l0 k a b 0
theorem lockkeeperref7_each.mono_l : ∀ k, (∀ a b c, LeO (lockkeeperref7_each.l0 k a b c) (lockkeeperref7_each.l0 (k + 1) a b c))
 | 0 => fun _ _ _ r h => by simp [lockkeeperref7_each.l0] at h
 | k + 1 => by
  have ih0 := lockkeeperref7_each.mono_l k
  ·intros
   have d := @lockkeeperref1_In.mono; have e := @lockkeeperref7_Byte.mono; unfold lockkeeperref7_each.l0
   exact moE
theorem lockkeeperref7_each.mono : ∀ a b k, LeO (lockkeeperref7_each.f k a b) (lockkeeperref7_each.f (k + 1) a b) := by
 intro a b k
 have ih0 := lockkeeperref7_each.mono_l k
 have c := @lockkeeperref1_In.mono; have d := @lockkeeperref7_Byte.mono; unfold lockkeeperref7_each.f
 exact moE
theorem lockkeeperref7_each.calls (k : Nat) (b : ByteArray) (t r : Bool) (w : World) (h : lockkeeperref7_each.f k b t = some r) :
  Calls Tryz.prog 154 #[.string b, .bool t] w fun e w' => e = .returned (.bool r) ∧ Drawn0 w w' := by
 have H : (lockkeeperref7_each.l0 k b t 0) = some r := h; clear h; have H' := Aside0.mk H; clear H; go_enter Tryz.func154, Tryz.ntmps154; go_wp2
 go_loopg [5] k (fun kq l w' => ∃ (a : Int), l = .int .i64 a ∧ Aside0 (lockkeeperref7_each.l0 kq b t a = some r) ∧ Aside0 (kq ≤ k) ∧ Drawn0 w w')
 case atStart => exact ⟨(0), rS, H', ⟨Nat.le_refl _⟩, dE⟩
 case round =>
  clear H'; obtain ⟨a, rfl, HA, m, ⟨J, rfl⟩⟩ := hrel
  cases gk with
  | zero => exact absurd HA.out (by simp [lockkeeperref7_each.l0])
  | succ k1 =>
   have H := HA.out; clear HA
   simp only [lockkeeperref7_each.l0] at H
   revert H; refine iteDD_ (fun n H => ?g1p) (fun n H => ?g1n)
   case' g1p =>
    revert H; refine iteB_ (fun v H => ?g2p) (fun v H => ?g2n)
    case' g2p =>
     subst v; revert H; refine iteND_ fun o H => ?_; replace H := bd_ H; obtain ⟨G, u, H⟩ := H; revert H; refine iteB_ (fun j H => ?g3p) (fun j H => ?g3n)
     case' g3p =>
      subst j; have H' := Aside0.mk H; clear H; obtain ⟨D, E, p⟩ := btf_ (s := b) (x := a) mE mE; have G7 := trivial; have c := trivial
     case' g3n =>
      subst j; replace H := bd_ H; obtain ⟨K, I, H⟩ := H; revert H; refine iteB_ (fun y H => ?g4p) (fun y H => ?g4n)
      case' g4p =>
       subst y; have H' := Aside0.mk H; clear H; obtain ⟨z, A, q⟩ := btf_ (s := b) (x := a) mE mE; have G6 := trivial; have c := trivial
      case' g4n =>
       subst y; obtain rfl := si_ H; obtain ⟨z, A, q⟩ := btf_ (s := b) (x := a) mE mE; have G6 := trivial; have d := trivial
    case' g2n =>
     subst v; revert H; refine iteND_ fun o H => ?_; replace H := bd_ H; obtain ⟨G, u, H⟩ := H; revert H; refine iteB_ (fun j H => ?g5p) (fun j H => ?g5n)
     case' g5p =>
      subst j; have H' := Aside0.mk H; clear H; obtain ⟨D, E, p⟩ := btf_ (s := b) (x := a) mE mE; have c := trivial
     case' g5n =>
      subst j; obtain rfl := si_ H; obtain ⟨D, E, p⟩ := btf_ (s := b) (x := a) mE mE; have d := trivial
   case' g1n =>
    obtain rfl := si_ H; have d := trivial
   all_goals
    go_wp2_with (first | (have z_ := G6; clear z_; (go_at_call 153; (with_reducible refine (lockkeeperref1_Plain.calls (bt b a) _ _ u.out).mono ?_); rintro e w' ⟨rfl, ⟨nd, rfl⟩⟩; have g : 0 ≤ (a : Int) := of_decide_eq_true mE; have i : a < (b.size : Int) := of_decide_eq_true mE; have B := bt_at b a; replace g := eq_true g; replace i := eq_true i)) | (have z_ := G7; clear z_; (go_at_call 153; (with_reducible refine (lockkeeperref1_Plain.calls (bt b a) _ _ u.out).mono ?_); rintro e w' ⟨rfl, ⟨nd, rfl⟩⟩)) | (go_at_call 114; (with_reducible refine (lockkeeperref1_In.calls k1 (bt b a) (⟨#[32, 42, 44, 45, 46, 59, 61]⟩ : ByteArray) _ _ I.out).mono ?_); rintro e w' ⟨rfl, ⟨nd, rfl⟩⟩) | (go_at_call 185; (with_reducible refine (lockkeeperref7_Byte.calls k1 (bt b a) _ _ u.out).mono ?_); rintro e w' ⟨rfl, ⟨nd, rfl⟩⟩))
    first
    | clear c
      go_roundg k1
      case measure => have := m.out; omega
      case rel => exact ⟨(wrap64 (a + 1)), rS, H', ⟨by have := m.out; omega⟩, dE⟩
    | clear d
      go_ret; exact ⟨rS, dE⟩
mutual
def lockkeeperref7_Essence.j1 : Nat → ByteArray → Int → Option (ByteArray × Bool)
 | 0, _, _ => none
 | k + 1, c, b => if 0 ≤ b then (if b ≤ (c.size : Int) then ((lockkeeperref1_Trim.f k (c.extract 0 (b : Int).toNat)).bind fun a => (lockkeeperref7_Essence.l1 k a 0)) else (none)) else (none)
def lockkeeperref7_Essence.j3 : Nat → ByteArray → Int → Option (ByteArray × Bool)
 | 0, _, _ => none
 | k + 1, a, b => if b = (a.size : Int) then (some ((⟨#[]⟩ : ByteArray), false)) else (if 0 ≤ b then (if b ≤ (a.size : Int) then ((lockkeeperref1_Token.f k (a.extract 0 (b : Int).toNat)).bind fun c => (if c = true then (if 0 ≤ (wrap64 (b + 1)) then (if (wrap64 (b + 1)) ≤ (a.size : Int) then ((lockkeeperref1_Token.f k (a.extract ((wrap64 (b + 1)) : Int).toNat a.size)).bind fun d => (if d = true then ((lockkeeperref1_Lower.f a).bind fun e => (some (e, true))) else (some ((⟨#[]⟩ : ByteArray), false)))) else (none)) else (none)) else (some ((⟨#[]⟩ : ByteArray), false)))) else (none)) else (none))
def lockkeeperref7_Essence.l1 : Nat → ByteArray → Int → Option (ByteArray × Bool)
 | 0, _, _ => none
 | k + 1, b, a => if a < (b.size : Int) then (if 0 ≤ a then (if (bt b a) = 47 then (lockkeeperref7_Essence.j3 k b a) else (lockkeeperref7_Essence.l1 k b (wrap64 (a + 1)))) else (none)) else (lockkeeperref7_Essence.j3 k b a)
def lockkeeperref7_Essence.l0 : Nat → ByteArray → Int → Option (ByteArray × Bool)
 | 0, _, _ => none
 | k + 1, b, a => if a < (b.size : Int) then (if 0 ≤ a then (if (bt b a) = 59 then (lockkeeperref7_Essence.j1 k b a) else (lockkeeperref7_Essence.l0 k b (wrap64 (a + 1)))) else (none)) else (lockkeeperref7_Essence.j1 k b a)
end
def lockkeeperref7_Essence.f (k : Nat) (a : ByteArray) : Option (ByteArray × Bool) := lockkeeperref7_Essence.l0 k a 0
theorem lockkeeperref7_Essence.mono_l : ∀ k, (∀ a b, LeO (lockkeeperref7_Essence.j1 k a b) (lockkeeperref7_Essence.j1 (k + 1) a b)) ∧ (∀ a b, LeO (lockkeeperref7_Essence.j3 k a b) (lockkeeperref7_Essence.j3 (k + 1) a b)) ∧ (∀ a b, LeO (lockkeeperref7_Essence.l1 k a b) (lockkeeperref7_Essence.l1 (k + 1) a b)) ∧ (∀ a b, LeO (lockkeeperref7_Essence.l0 k a b) (lockkeeperref7_Essence.l0 (k + 1) a b))
 | 0 => ⟨fun _ _ r h => by simp [lockkeeperref7_Essence.j1] at h, fun _ _ r h => by simp [lockkeeperref7_Essence.j3] at h, fun _ _ r h => by simp [lockkeeperref7_Essence.l1] at h, fun _ _ r h => by simp [lockkeeperref7_Essence.l0] at h⟩
 | k + 1 => by
  obtain ⟨ih0, ih1, ih2, ih3⟩ := lockkeeperref7_Essence.mono_l k
  have c := @lockkeeperref1_Token.mono; have d := @lockkeeperref1_Trim.mono
  refine ⟨?_, ?_, ?_, ?_⟩
  ·intros
   unfold lockkeeperref7_Essence.j1
   exact moE
  ·intros
   unfold lockkeeperref7_Essence.j3
   exact moE
  ·intros
   unfold lockkeeperref7_Essence.l1
   exact moE
  ·intros
   unfold lockkeeperref7_Essence.l0
   exact moE
theorem lockkeeperref7_Essence.mono : ∀ a k, LeO (lockkeeperref7_Essence.f k a) (lockkeeperref7_Essence.f (k + 1) a) := by
 intro a k
 obtain ⟨ih0, ih1, ih2, ih3⟩ := lockkeeperref7_Essence.mono_l k
 have b := @lockkeeperref1_Token.mono; have c := @lockkeeperref1_Trim.mono; unfold lockkeeperref7_Essence.f
 exact moE
theorem lockkeeperref7_Essence.calls (k : Nat) (u E : ByteArray) (G : Bool) (w : World) (h : lockkeeperref7_Essence.f k u = some (E, G)) :
  Calls Tryz.prog 155 #[.string u] w fun e w' => e = .returned (.tuple #[.string E, .bool G]) ∧ Below w.heap.size w w' := by
 have HB := Aside0.mk (Below.refl w.heap.size w); have H : (lockkeeperref7_Essence.l0 k u 0) = some (E, G) := h; clear h; have I := Aside0.mk H; clear H; go_enter Tryz.func155, Tryz.ntmps155
 go_upto_block 0 with (first | (fail))
 go_cut [4] (fun j wc => ∃ (kq : Nat) (a : Int), j = .int .i64 a ∧ Aside0 (lockkeeperref7_Essence.j1 kq u a = some (E, G)) ∧ Aside0 (kq ≤ k) ∧ Aside0 (Below w.heap.size w wc))
 case first =>
  have H := I.out; clear I; have H' := Aside0.mk H; clear H; go_wp2
  go_loopg [4] k (fun kq j w' => ∃ (a : Int), j = .int .i64 a ∧ Aside0 (lockkeeperref7_Essence.l0 kq u a = some (E, G)) ∧ Aside0 (kq ≤ k) ∧ Aside0 (Below w.heap.size w w'))
  case atStart => exact ⟨(0), rS, H', ⟨Nat.le_refl _⟩, ⟨bE⟩⟩
  case round =>
   clear H'; obtain ⟨a, rfl, HA, J, HB⟩ := hrel
   cases gk with
   | zero => exact absurd HA.out (by simp [lockkeeperref7_Essence.l0])
   | succ k1 =>
    have H := HA.out; clear HA
    simp only [lockkeeperref7_Essence.l0] at H
    revert H; refine iteDD_ (fun c H => ?g1p) (fun c H => ?g1n)
    case' g1p =>
     (first | rw [c] | (simp only [i64_w, i32_w]; rw [c]) | skip); revert H; refine iteND_ fun l => iteEF_ (fun a2 a3 H => ?g2p) (fun c5 a2 a3 H => ?g2n)
     case' g2p =>
      have H' := Aside0.mk H; clear H; obtain ⟨p6, q6, hx6⟩ := btf_ (s := u) (x := a) mE mE; have v := trivial
     case' g2n =>
      have H' := Aside0.mk H; clear H; obtain ⟨p6, q6, hx6⟩ := btf_ (s := u) (x := a) mE mE; have a4 := trivial
    case' g1n =>
     (first | rw [c] | (simp only [i64_w, i32_w]; rw [c]) | skip); have H' := Aside0.mk H; clear H; have v := trivial
    all_goals
     go_wp2
     first
     | clear v
       go_meet
       case rel => exact ⟨_, (a), rS, H', ⟨by have := J.out; first | omega | exact Nat.le_refl _⟩, ⟨bE⟩⟩
     | clear a4
       go_roundg k1
       case measure => have := J.out; omega
       case rel => exact ⟨(wrap64 (a + 1)), rS, H', ⟨by have := J.out; omega⟩, ⟨bE⟩⟩
 case rest =>
  clear I; (try clear c); (try clear l); (try clear p6); obtain ⟨kq, a, rfl, HA, K, HB⟩ := hcut
  cases kq with
  | zero => exact absurd HA.out (by simp [lockkeeperref7_Essence.j1])
  | succ t =>
   have H := HA.out; clear HA
   simp only [lockkeeperref7_Essence.j1] at H
   revert H; refine iteNT_ fun y z => iteNT_ fun A B H => ?_; replace H := bd_ H; obtain ⟨m, A9, H⟩ := H; have n := Aside0.mk H; clear H
   go_upto_block 2 with (first | ((with_reducible refine gate_callee (f := 113) rfl ?_); refine gL _ Tryz.func113 _ ((lockkeeperref1_Trim.calls t (u.extract 0 (a : Int).toNat) m _ A9.out).mono ?_); rintro e w' ⟨rfl, ⟨nd, rfl⟩⟩; refine ⟨_, rfl, ?_⟩))
   (try simp only [Act.put, List.setIfInBounds_toArray, List.set_cons_zero, List.set_cons_succ])
   go_cut [6] (fun o wc => ∃ (kq : Nat) (g : Int), o = .int .i64 g ∧ Aside0 (lockkeeperref7_Essence.j3 kq m g = some (E, G)) ∧ Aside0 (kq ≤ t) ∧ Aside0 (Below w.heap.size w wc))
   case first =>
    have H := n.out; clear n; have H' := Aside0.mk H; clear H; go_wp2
    go_loopg [6] t (fun kq o w' => ∃ (d : Int), o = .int .i64 d ∧ Aside0 (lockkeeperref7_Essence.l1 kq m d = some (E, G)) ∧ Aside0 (kq ≤ t) ∧ Aside0 (Below w.heap.size w w'))
    case atStart => exact ⟨(0), rS, H', ⟨Nat.le_refl _⟩, ⟨bE⟩⟩
    case round =>
     clear H'; (try clear c); (try clear l); (try clear p6); (try clear y); (try clear z); (try clear A); (try clear B); obtain ⟨d, rfl, HA, L, HB⟩ := hrel
     cases gk with
     | zero => exact absurd HA.out (by simp [lockkeeperref7_Essence.l1])
     | succ k2 =>
      have H := HA.out; clear HA
      simp only [lockkeeperref7_Essence.l1] at H
      revert H; refine iteDD_ (fun b H => ?g4p) (fun b H => ?g4n)
      case' g4p =>
       (first | rw [b] | (simp only [i64_w, i32_w]; rw [b]) | skip); revert H; refine iteND_ fun M => iteEF_ (fun O U H => ?g5p) (fun c13 O U H => ?g5n)
       case' g5p =>
        have H' := Aside0.mk H; clear H; obtain ⟨p14, q14, a5⟩ := btf_ (s := m) (x := d) mE mE; have D := trivial
       case' g5n =>
        have H' := Aside0.mk H; clear H; obtain ⟨p14, q14, a5⟩ := btf_ (s := m) (x := d) mE mE; have a6 := trivial
      case' g4n =>
       (first | rw [b] | (simp only [i64_w, i32_w]; rw [b]) | skip); have H' := Aside0.mk H; clear H; have D := trivial
      all_goals
       go_wp2
       first
       | clear D
         go_meet
         case rel => exact ⟨_, (d), rS, H', ⟨by have := K.out; have := L.out; first | omega | exact Nat.le_refl _⟩, ⟨bE⟩⟩
       | clear a6
         go_roundg k2
         case measure => have := K.out; have := L.out; omega
         case rel => exact ⟨(wrap64 (d + 1)), rS, H', ⟨by have := K.out; have := L.out; omega⟩, ⟨bE⟩⟩
   case rest =>
    clear n; (try clear c); (try clear l); (try clear p6); (try clear y); (try clear z); (try clear A); (try clear B); (try clear b); (try clear M); obtain ⟨kq, g, rfl, HA, HJ9, HB⟩ := hcut
    cases kq with
    | zero => exact absurd HA.out (by simp [lockkeeperref7_Essence.j3])
    | succ W =>
     have H := HA.out; clear HA
     simp only [lockkeeperref7_Essence.j3] at H
     revert H; refine iteEF_ (fun X Y H => ?g7p) (fun c15 X Y H => ?g7n)
     case' g7p =>
      simp only [Option.some.injEq, Prod.mk.injEq] at H
      obtain ⟨rfl, rfl⟩ := H; have p := trivial
     case' g7n =>
      revert H; refine iteNT_ fun c16b0 c16b1 => iteNT_ fun c17b0 c17b1 H => ?_; replace H := bd_ H; obtain ⟨t2, a7, H⟩ := H; revert H; refine iteB_ (fun Z H => ?g8p) (fun Z H => ?g8n)
      case' g8p =>
       subst Z; generalize i : (wrap64 (g + 1)) = q at H; (try rw [i] at a7); have hji20w : (IntKind.i64.wrap (g + 1)) = q := (i64_w _).trans i; revert H; refine iteNT_ fun c21b0 c21b1 => iteNT_ fun c22b0 c22b1 H => ?_; replace H := bd_ H; obtain ⟨t3, a8, H⟩ := H; revert H; refine iteB_ (fun a1 H => ?g9p) (fun a1 H => ?g9n)
       case' g9p =>
        subst a1; replace H := bd_ H; obtain ⟨t4, A25, H⟩ := H
        simp only [Option.some.injEq, Prod.mk.injEq] at H
        obtain ⟨rfl, rfl⟩ := H; have r := trivial
       case' g9n =>
        subst a1
        simp only [Option.some.injEq, Prod.mk.injEq] at H
        obtain ⟨rfl, rfl⟩ := H; have r := trivial
      case' g8n =>
       subst Z
       simp only [Option.some.injEq, Prod.mk.injEq] at H
       obtain ⟨rfl, rfl⟩ := H; have p := trivial
     all_goals
      go_wp2_with (first | (go_at_call 111; (with_reducible refine (lockkeeperref1_Token.calls W (m.extract 0 (g : Int).toNat) _ _ a7.out).mono ?_); rintro e w' ⟨rfl, ⟨nd, rfl⟩⟩) | (go_at_call 111; (with_reducible refine (lockkeeperref1_Token.calls W (m.extract ((q) : Int).toNat m.size) true _ a8.out).mono ?_); rintro e w' ⟨rfl, ⟨nd, rfl⟩⟩) | ((with_reducible refine gate_callee (f := 107) rfl ?_); refine gL _ Tryz.func107 _ ((lockkeeperref1_Lower.calls m _ _ A25.out).mono ?_); rintro e w5a1 ⟨rfl, hb⟩; refine ⟨_, rfl, ?_⟩; replace HB := bS bE hb; (try clear hb)) | (go_at_call 111; (with_reducible refine (lockkeeperref1_Token.calls W (m.extract ((q) : Int).toNat m.size) false _ a8.out).mono ?_); rintro e w' ⟨rfl, ⟨nd, rfl⟩⟩)); go_ret2
      first
      | clear p
        exact ⟨rE, bE⟩
      | clear r
        exact ⟨by first | rfl | (simp [errW_none, errW_some] <;> rfl) | (simp only [← i]; first | rfl | (simp [errW_none, errW_some] <;> rfl)) | (simp [*, errW_none, errW_some] <;> rfl), bE⟩
mutual
def lockkeeperref7_Range.j0 : Nat → ByteArray → Bool → Option (Bool)
 | 0, _, _ => none
 | k + 1, a, b => if b = true then (some false) else (if 6 ≤ (a.size : Int) then (lockkeeperref7_Range.l0 k (a.extract 6 a.size) 0) else (none))
def lockkeeperref7_Range.j2 : Nat → ByteArray → Int → Option (Bool)
 | 0, _, _ => none
 | k + 1, d, c => if c = (d.size : Int) then (some false) else (if 0 ≤ c then (if c ≤ (d.size : Int) then ((lockkeeperref1_Digits.f k (d.extract 0 (c : Int).toNat)).bind fun a => (if a.2 = true then (if (wrap64 (c + 1)) = (d.size : Int) then (some true) else (if 0 ≤ (wrap64 (c + 1)) then (if (wrap64 (c + 1)) ≤ (d.size : Int) then ((lockkeeperref1_Digits.f k (d.extract ((wrap64 (c + 1)) : Int).toNat d.size)).bind fun b => (if b.2 = true then (some (decide (b.1 ≥ a.1))) else (some false))) else (none)) else (none))) else (some false))) else (none)) else (none))
def lockkeeperref7_Range.l0 : Nat → ByteArray → Int → Option (Bool)
 | 0, _, _ => none
 | k + 1, b, a => if a < (b.size : Int) then (if 0 ≤ a then (if (bt b a) = 45 then (lockkeeperref7_Range.j2 k b a) else (lockkeeperref7_Range.l0 k b (wrap64 (a + 1)))) else (none)) else (lockkeeperref7_Range.j2 k b a)
end
def lockkeeperref7_Range.f (k : Nat) (a : ByteArray) : Option (Bool) := if (a.size : Int) < 6 then (lockkeeperref7_Range.j0 k a true) else (if 0 ≤ 6 then (if 6 ≤ (a.size : Int) then (lockkeeperref7_Range.j0 k a ((a.extract 0 6).toList != ([98, 121, 116, 101, 115, 61] : List UInt8))) else (none)) else (none))
theorem lockkeeperref7_Range.mono_l : ∀ k, (∀ a b, LeO (lockkeeperref7_Range.j0 k a b) (lockkeeperref7_Range.j0 (k + 1) a b)) ∧ (∀ a b, LeO (lockkeeperref7_Range.j2 k a b) (lockkeeperref7_Range.j2 (k + 1) a b)) ∧ (∀ a b, LeO (lockkeeperref7_Range.l0 k a b) (lockkeeperref7_Range.l0 (k + 1) a b))
 | 0 => ⟨fun _ _ r h => by simp [lockkeeperref7_Range.j0] at h, fun _ _ r h => by simp [lockkeeperref7_Range.j2] at h, fun _ _ r h => by simp [lockkeeperref7_Range.l0] at h⟩
 | k + 1 => by
  obtain ⟨ih0, ih1, ih2⟩ := lockkeeperref7_Range.mono_l k
  have c := @lockkeeperref1_Digits.mono
  refine ⟨?_, ?_, ?_⟩
  ·intros
   unfold lockkeeperref7_Range.j0
   exact moE
  ·intros
   unfold lockkeeperref7_Range.j2
   exact moE
  ·intros
   unfold lockkeeperref7_Range.l0
   exact moE
theorem lockkeeperref7_Range.mono : ∀ a k, LeO (lockkeeperref7_Range.f k a) (lockkeeperref7_Range.f (k + 1) a) := by
 intro a k
 obtain ⟨ih0, ih1, ih2⟩ := lockkeeperref7_Range.mono_l k
 have b := @lockkeeperref1_Digits.mono; unfold lockkeeperref7_Range.f
 exact moE
theorem lockkeeperref7_Range.calls (k : Nat) (m : ByteArray) (r : Bool) (w : World) (h : lockkeeperref7_Range.f k m = some r) :
  Calls Tryz.prog 156 #[.string m] w fun e w' => e = .returned (.bool r) ∧ Drawn0 w w' := by
 have H := h; clear h; unfold lockkeeperref7_Range.f at H; have G := Aside0.mk H; clear H; go_enter Tryz.func156, Tryz.ntmps156
 go_upto_region 1 with (first | (fail))
 go_cut [16] (fun a1 wc => ∃ (kq : Nat) (j : Bool), a1 = .bool j ∧ Aside0 (lockkeeperref7_Range.j0 kq m j = some r) ∧ Aside0 (kq ≤ k) ∧ Drawn0 w wc)
 case first =>
  have H := G.out; clear G; revert H; refine itePP_ (fun A H => ?g1p) (fun A H => ?g1n)
  case' g1p =>
   have g := decide_eq_true A; have a2 : decide (m.size < 6) = true := decide_eq_true (by omega); clear A; (first | rw [g] | (simp only [i64_w, i32_w]; rw [g]) | skip); have H' := Aside0.mk H; clear H; have a3 := trivial
  case' g1n =>
   have g := decide_eq_false A; have a2 : decide (m.size < 6) = false := decide_eq_false (by omega); clear A; (first | rw [g] | (simp only [i64_w, i32_w]; rw [g]) | skip); revert H; refine iteNT_ fun n o => iteNT_ fun p q H => ?_; have H' := Aside0.mk H; clear H; have a4 := trivial
  all_goals
   go_wp2; go_meet
   first
   | clear a3
     case rel => exact ⟨_, (true), rS, H', ⟨oE⟩, dE⟩
   | clear a4
     case rel => exact ⟨_, (((m.extract 0 6).toList != ([98, 121, 116, 101, 115, 61] : List UInt8))), rS, H', ⟨oE⟩, dE⟩
 case rest =>
  clear G; (try clear A); (try clear n); (try clear o); (try clear p); (try clear q); obtain ⟨kq, j, rfl, HA, I, ⟨mc1, rfl⟩⟩ := hcut
  cases kq with
  | zero => exact absurd HA.out (by simp [lockkeeperref7_Range.j0])
  | succ J =>
   have H := HA.out; clear HA
   simp only [lockkeeperref7_Range.j0] at H
   revert H; refine iteB_ (fun c6 H => ?g3p) (fun c6 H => ?g3n)
   case' g3p =>
    subst c6; obtain rfl := si_ H; have M4_0 := trivial
   case' g3n =>
    subst c6; revert H; refine iteNT_ fun B D H => ?_; have K := Aside0.mk H; clear H; have M4_1 := trivial
   all_goals
    first
    | clear M4_0
      go_wp2; go_ret; exact ⟨rS, dE⟩
    | clear M4_1
      go_upto_block 0 with (first | (fail))
      go_cut [4] (fun t wc => ∃ (kq : Nat) (a : Int), t = .int .i64 a ∧ Aside0 (lockkeeperref7_Range.j2 kq (m.extract 6 m.size) a = some r) ∧ Aside0 (kq ≤ J) ∧ Drawn0 w wc)
      case first =>
       have H := K.out; clear K; have H' := Aside0.mk H; clear H; go_wp2; generalize m.extract 6 m.size = gx1 at *
       go_loopg [4] J (fun kq t w' => ∃ (c : Int), t = .int .i64 c ∧ Aside0 (lockkeeperref7_Range.l0 kq gx1 c = some r) ∧ Aside0 (kq ≤ J) ∧ Drawn0 w w')
       case atStart => exact ⟨(0), rS, H', ⟨Nat.le_refl _⟩, dE⟩
       case round =>
        clear H'; (try clear A); (try clear n); (try clear o); (try clear p); (try clear q); (try clear c6); (try clear B); (try clear D); obtain ⟨c, rfl, HA, L, ⟨m2, rfl⟩⟩ := hrel
        cases gk with
        | zero => exact absurd HA.out (by simp [lockkeeperref7_Range.l0])
        | succ k2 =>
         have H := HA.out; clear HA
         simp only [lockkeeperref7_Range.l0] at H
         revert H; refine iteDD_ (fun d H => ?g5p) (fun d H => ?g5n)
         case' g5p =>
          (first | rw [d] | (simp only [i64_w, i32_w]; rw [d]) | skip); revert H; refine iteND_ fun M => iteEF_ (fun O U H => ?g6p) (fun c11 O U H => ?g6n)
          case' g6p =>
           have H' := Aside0.mk H; clear H; obtain ⟨p12, q12, hx12⟩ := btf_ (s := gx1) (x := c) mE mE; have E := trivial
          case' g6n =>
           have H' := Aside0.mk H; clear H; obtain ⟨p12, q12, hx12⟩ := btf_ (s := gx1) (x := c) mE mE; have M7_1 := trivial
         case' g5n =>
          (first | rw [d] | (simp only [i64_w, i32_w]; rw [d]) | skip); have H' := Aside0.mk H; clear H; have E := trivial
         all_goals
          go_wp2
          first
          | clear E
            go_meet
            case rel => exact ⟨_, (c), rS, H', ⟨by have := I.out; have := L.out; first | omega | exact Nat.le_refl _⟩, dE⟩
          | clear M7_1
            go_roundg k2
            case measure => have := I.out; have := L.out; omega
            case rel => exact ⟨(wrap64 (c + 1)), rS, H', ⟨by have := I.out; have := L.out; omega⟩, dE⟩
      case rest =>
       clear K; (try clear A); (try clear n); (try clear o); (try clear p); (try clear q); (try clear c6); (try clear B); (try clear D); (try clear d); (try clear M); obtain ⟨kq, a, rfl, HA, HJ7, ⟨mc7, rfl⟩⟩ := hcut; generalize m.extract 6 m.size = gx2 at *
       cases kq with
       | zero => exact absurd HA.out (by simp [lockkeeperref7_Range.j2])
       | succ z =>
        have H := HA.out; clear HA
        simp only [lockkeeperref7_Range.j2] at H
        revert H; refine iteEF_ (fun W X H => ?g8p) (fun c13 W X H => ?g8n)
        case' g8p =>
         obtain rfl := si_ H; have l := trivial
        case' g8n =>
         revert H; refine iteNT_ fun c14b0 c14b1 => iteNT_ fun c15b0 c15b1 H => ?_; replace H := bd_ H; obtain ⟨⟨t1, t2⟩, A16, H⟩ := H; replace H : (if t2 = true then (if (wrap64 (a + 1)) = (gx2.size : Int) then (some true) else (if 0 ≤ (wrap64 (a + 1)) then (if (wrap64 (a + 1)) ≤ (gx2.size : Int) then ((lockkeeperref1_Digits.f z (gx2.extract ((wrap64 (a + 1)) : Int).toNat gx2.size)).bind fun bt3 => (if bt3.2 = true then (some (decide (bt3.1 ≥ t1))) else (some false))) else (none)) else (none))) else (some false)) = some r := H; revert H; refine iteB_ (fun Y H => ?g9p) (fun Y H => ?g9n)
         case' g9p =>
          subst Y; revert H; refine iteEF_ (fun u v H => ?g10p) (fun c18 u v H => ?g10n)
          case' g10p =>
           obtain rfl := si_ H; have l := trivial
          case' g10n =>
           generalize b : (wrap64 (a + 1)) = i at H; (try rw [b] at u); (try rw [b] at v); (try rw [b] at A16); have hji19w : (IntKind.i64.wrap (a + 1)) = i := (i64_w _).trans b; revert H; refine iteNT_ fun c20b0 c20b1 => iteNT_ fun c21b0 c21b1 H => ?_; replace H := bd_ H; obtain ⟨⟨t3, t4⟩, A22, H⟩ := H; replace H : (if t4 = true then (some (decide (t3 ≥ t1))) else (some false)) = some r := H; revert H; refine iteB_ (fun Z H => ?g11p) (fun Z H => ?g11n)
           case' g11p =>
            subst Z; obtain rfl := si_ H; have y := trivial
           case' g11n =>
            subst Z; obtain rfl := si_ H; have y := trivial
         case' g9n =>
          subst Y; obtain rfl := si_ H; have l := trivial
        all_goals
         go_wp2_with (first | ((with_reducible refine gate_callee (f := 151) rfl ?_); refine gL _ Tryz.func151 _ ((lockkeeperref1_Digits.calls z (gx2.extract 0 (a : Int).toNat) t1 _ _ A16.out).mono ?_); rintro e w' ⟨rfl, ⟨nd, rfl⟩⟩; refine ⟨_, rfl, ?_⟩) | ((with_reducible refine gate_callee (f := 151) rfl ?_); refine goesL_ (some 54) rfl rfl Tryz.func151 (by kernel_rfl) rfl #[.string (gx2.extract ((i) : Int).toNat gx2.size)] rfl (by (try simp only [List.map_toArray, List.map_cons, List.map_nil]); first | done | (simp only [b]; rfl) | rfl | (simp only [List.length_drop, List.length_take]; rfl)) ?_; (with_reducible refine (lockkeeperref1_Digits.calls z (gx2.extract ((i) : Int).toNat gx2.size) t3 true _ A22.out).mono ?_); rintro e w' ⟨rfl, ⟨nd, rfl⟩⟩; refine ⟨_, rfl, ?_⟩) | ((with_reducible refine gate_callee (f := 151) rfl ?_); refine goesL_ (some 54) rfl rfl Tryz.func151 (by kernel_rfl) rfl #[.string (gx2.extract ((i) : Int).toNat gx2.size)] rfl (by (try simp only [List.map_toArray, List.map_cons, List.map_nil]); first | done | (simp only [b]; rfl) | rfl | (simp only [List.length_drop, List.length_take]; rfl)) ?_; (with_reducible refine (lockkeeperref1_Digits.calls z (gx2.extract ((i) : Int).toNat gx2.size) t3 false _ A22.out).mono ?_); rintro e w' ⟨rfl, ⟨nd, rfl⟩⟩; refine ⟨_, rfl, ?_⟩)); go_ret
         first
         | clear l
           exact ⟨rS, dE⟩
         | clear y
           exact ⟨by first | rfl | (simp; done) | (simp only [← b] <;> (first | rfl | simp)) | (simp [*]; done), dE⟩
def lockkeeperref7_Header.j0 : Nat → ByteArray → ByteArray → Bool → Option (Bool)
 | 0, _, _, _ => none
 | k + 1, g, b, i => if i = true then ((lockkeeperref7_each.f k g true).bind fun c => (some c)) else (if b.toList = ([99, 111, 110, 116, 101, 110, 116, 45, 116, 121, 112, 101] : List UInt8) then ((lockkeeperref7_Essence.f k g).bind fun a => ((lockkeeperref7_each.f k g false).bind fun d => (if d = true then (if a.1.toList = ([97, 112, 112, 108, 105, 99, 97, 116, 105, 111, 110, 47, 120, 45, 119, 119, 119, 45, 102, 111, 114, 109, 45, 117, 114, 108, 101, 110, 99, 111, 100, 101, 100] : List UInt8) then (some true) else (if a.1.toList = ([109, 117, 108, 116, 105, 112, 97, 114, 116, 47, 102, 111, 114, 109, 45, 100, 97, 116, 97] : List UInt8) then (some true) else (some (a.1.toList == ([116, 101, 120, 116, 47, 112, 108, 97, 105, 110] : List UInt8))))) else (some false)))) else (if b.toList = ([114, 97, 110, 103, 101] : List UInt8) then ((lockkeeperref7_Range.f k g).bind fun e => (some e)) else (some false)))
def lockkeeperref7_Header.f (k : Nat) (c d : ByteArray) : Option (Bool) := (lockkeeperref1_Trim.f k d).bind fun b => (if (b.size : Int) > 128 then (some false) else ((lockkeeperref1_Lower.f c).bind fun a => (if a.toList = ([97, 99, 99, 101, 112, 116] : List UInt8) then ((lockkeeperref7_each.f k b false).bind fun e => (some e)) else (if a.toList = ([97, 99, 99, 101, 112, 116, 45, 108, 97, 110, 103, 117, 97, 103, 101] : List UInt8) then (lockkeeperref7_Header.j0 k b a (a.toList == ([97, 99, 99, 101, 112, 116, 45, 108, 97, 110, 103, 117, 97, 103, 101] : List UInt8))) else (lockkeeperref7_Header.j0 k b a (a.toList == ([99, 111, 110, 116, 101, 110, 116, 45, 108, 97, 110, 103, 117, 97, 103, 101] : List UInt8)))))))
theorem lockkeeperref7_Header.mono_l : ∀ k, (∀ a b c, LeO (lockkeeperref7_Header.j0 k a b c) (lockkeeperref7_Header.j0 (k + 1) a b c))
 | 0 => fun _ _ _ r h => by simp [lockkeeperref7_Header.j0] at h
 | k + 1 => by
  have ih0 := lockkeeperref7_Header.mono_l k
  ·intros
   have d := @lockkeeperref1_Trim.mono; have e := @lockkeeperref7_Essence.mono; have g := @lockkeeperref7_Range.mono; have i := @lockkeeperref7_each.mono; unfold lockkeeperref7_Header.j0
   exact moE
theorem lockkeeperref7_Header.mono : ∀ a b k, LeO (lockkeeperref7_Header.f k a b) (lockkeeperref7_Header.f (k + 1) a b) := by
 intro a b k
 have ih0 := lockkeeperref7_Header.mono_l k
 have c := @lockkeeperref1_Trim.mono; have d := @lockkeeperref7_Essence.mono; have e := @lockkeeperref7_Range.mono; have g := @lockkeeperref7_each.mono; unfold lockkeeperref7_Header.f
 exact moE
theorem lockkeeperref7_Header.calls (k : Nat) (b c : ByteArray) (r : Bool) (w : World) (h : lockkeeperref7_Header.f k b c = some r) :
  Calls Tryz.prog 115 #[.agg #[.string b, .string c]] w fun e w' => e = .returned (.bool r) ∧ Below w.heap.size w w' := by
 have hu28 := Tryz.underlying28; have HB := Aside0.mk (Below.refl w.heap.size w); have H := h; clear h; unfold lockkeeperref7_Header.f at H; replace H := bd_ H; obtain ⟨p, A1, H⟩ := H; revert H; refine itePP_ (fun W H => ?g1p) (fun W H => ?g1n)
 case' g1p =>
  have s : decide (128 < (p.size : Int)) = true := decide_eq_true W; have u : decide (128 < p.size) = true := decide_eq_true (by omega); clear W; obtain rfl := si_ H; have v := trivial
 case' g1n =>
  have s : decide (128 < (p.size : Int)) = false := decide_eq_false W; have u : decide (128 < p.size) = false := decide_eq_false (by omega); clear W; replace H := bd_ H; obtain ⟨t2, A3, H⟩ := H; revert H; refine iteEF_ (fun x y H => ?g2p) (fun c4 x y H => ?g2n)
  case' g2p =>
   replace H := bd_ H; obtain ⟨t3, A5, H⟩ := H; obtain rfl := si_ H; have v := trivial
  case' g2n =>
   have z := Aside0.mk H; clear H; have Y := trivial
 all_goals
  go_enter Tryz.func115, Tryz.ntmps115
  first
  | clear v
    go_wp2_with (first | ((with_reducible refine gate_dst (N := 1) rfl ?_); refine bxE (N := 1) (cs := #[.string b, .string c]) (t := 28) fun q hg Z hbox hb => ?_; obtain ⟨HB', a, m⟩ := bx_ bE hg hbox hb; have A := m; clear HB hb hbox hg; have HB := HB'; clear HB'; obtain ⟨n, o, g, i⟩ := bk2_ a) | ((with_reducible refine gate_callee (f := 113) rfl ?_); refine gL _ Tryz.func113 _ ((lockkeeperref1_Trim.calls k c _ _ A1.out).mono ?_); rintro e w' ⟨rfl, ⟨nd, rfl⟩⟩; refine ⟨_, rfl, ?_⟩) | ((with_reducible refine gate_callee (f := 107) rfl ?_); refine gL _ Tryz.func107 _ ((lockkeeperref1_Lower.calls b _ _ A3.out).mono ?_); rintro e a0 ⟨rfl, hb⟩; refine ⟨_, rfl, ?_⟩; replace a := kM a hb; replace HB := bS bE hb; (try clear hb)) | ((with_reducible refine gate_callee (f := 154) rfl ?_); refine gL _ Tryz.func154 _ ((lockkeeperref7_each.calls k p false _ _ A5.out).mono ?_); rintro e w' ⟨rfl, ⟨nd, rfl⟩⟩; refine ⟨_, rfl, ?_⟩)); go_ret; exact ⟨rE, bE⟩
  | clear Y
    go_upto_if 19 with (first | ((with_reducible refine gate_dst (N := 1) rfl ?_); refine bxE (N := 1) (cs := #[.string b, .string c]) (t := 28) fun q hg Z hbox hb => ?_; obtain ⟨HB', a, m⟩ := bx_ bE hg hbox hb; have A := m; clear HB hb hbox hg; have HB := HB'; clear HB'; obtain ⟨n, o, g, i⟩ := bk2_ a) | ((with_reducible refine gate_callee (f := 113) rfl ?_); refine gL _ Tryz.func113 _ ((lockkeeperref1_Trim.calls k c p _ A1.out).mono ?_); rintro e w' ⟨rfl, ⟨nd, rfl⟩⟩; refine ⟨_, rfl, ?_⟩) | ((with_reducible refine gate_callee (f := 107) rfl ?_); refine gL _ Tryz.func107 _ ((lockkeeperref1_Lower.calls b t2 _ A3.out).mono ?_); rintro e a0 ⟨rfl, hb⟩; refine ⟨_, rfl, ?_⟩; replace a := kM a hb; replace HB := bS bE hb; (try clear hb)))
    (try simp only [Act.put, List.setIfInBounds_toArray, List.set_cons_zero, List.set_cons_succ])
    go_cut [19] (fun a1 wc => ∃ (kq : Nat) (d : Bool), a1 = .bool d ∧ Aside0 (lockkeeperref7_Header.j0 kq p t2 d = some r) ∧ Aside0 (kq ≤ k) ∧ Aside0 (wc.heap[q]? = some (.cells #[.string b, .string c] 28 (0, 0))) ∧ Aside0 (Below w.heap.size w wc))
    case first =>
     have H := z.out; clear z; revert H; refine iteEF_ (fun j a2 H => ?g4p) (fun c6 j a2 H => ?g4n)
     case' g4p =>
      (first | rw [j] | (simp only [i64_w, i32_w]; rw [j]) | skip); have H' := Aside0.mk H; clear H; have a3 := trivial
     case' g4n =>
      (first | rw [j] | (simp only [i64_w, i32_w]; rw [j]) | skip); have H' := Aside0.mk H; clear H; have a4 := trivial
     all_goals
      go_wp2; go_meet
      first
      | clear a3
        case rel => exact ⟨_, ((t2.toList == ([97, 99, 99, 101, 112, 116, 45, 108, 97, 110, 103, 117, 97, 103, 101] : List UInt8))), rS, H', ⟨oE⟩, ⟨kC a⟩, ⟨bE⟩⟩
      | clear a4
        case rel => exact ⟨_, ((t2.toList == ([99, 111, 110, 116, 101, 110, 116, 45, 108, 97, 110, 103, 117, 97, 103, 101] : List UInt8))), rS, H', ⟨oE⟩, ⟨kC a⟩, ⟨bE⟩⟩
    case rest =>
     clear z; (try clear c6); (try clear W); (try clear s); (try clear u); (try clear c4); (try clear x); (try clear y); (try clear n); (try clear o); (try clear g); (try clear i); obtain ⟨kq, d, rfl, HA, HJ11, a, HB⟩ := hcut
     cases kq with
     | zero => exact absurd HA.out (by simp [lockkeeperref7_Header.j0])
     | succ l =>
      have H := HA.out; clear HA
      simp only [lockkeeperref7_Header.j0] at H
      revert H; refine iteB_ (fun B H => ?g6p) (fun B H => ?g6n)
      case' g6p =>
       subst B; replace H := bd_ H; obtain ⟨X, A12, H⟩ := H; obtain rfl := si_ H
      case' g6n =>
       subst B; revert H; refine iteEF_ (fun D E H => ?g7p) (fun c12 D E H => ?g7n)
       case' g7p =>
        replace H := bd_ H; obtain ⟨⟨X, t5⟩, A13, H⟩ := H; replace H : ((lockkeeperref7_each.f l p false).bind fun t6 => (if t6 = true then (if X.toList = ([97, 112, 112, 108, 105, 99, 97, 116, 105, 111, 110, 47, 120, 45, 119, 119, 119, 45, 102, 111, 114, 109, 45, 117, 114, 108, 101, 110, 99, 111, 100, 101, 100] : List UInt8) then (some true) else (if X.toList = ([109, 117, 108, 116, 105, 112, 97, 114, 116, 47, 102, 111, 114, 109, 45, 100, 97, 116, 97] : List UInt8) then (some true) else (some (X.toList == ([116, 101, 120, 116, 47, 112, 108, 97, 105, 110] : List UInt8))))) else (some false))) = some r := H; replace H := bd_ H; obtain ⟨t6, G, H⟩ := H; revert H; refine iteB_ (fun I H => ?g8p) (fun I H => ?g8n)
        case' g8p =>
         subst I; revert H; refine iteEF_ (fun J K H => ?g9p) (fun c16 J K H => ?g9n)
         case' g9p =>
          obtain rfl := si_ H
         case' g9n =>
          revert H; refine iteEF_ (fun L M H => ?g10p) (fun c17 L M H => ?g10n)
          case' g10p =>
           obtain rfl := si_ H
          case' g10n =>
           obtain rfl := si_ H
        case' g8n =>
         subst I; obtain rfl := si_ H
       case' g7n =>
        revert H; refine iteEF_ (fun O U H => ?g11p) (fun c13 O U H => ?g11n)
        case' g11p =>
         replace H := bd_ H; obtain ⟨X, G, H⟩ := H; obtain rfl := si_ H
        case' g11n =>
         obtain rfl := si_ H
      all_goals
       go_wp2_with (first | ((with_reducible refine gate_callee (f := 154) rfl ?_); refine gL _ Tryz.func154 _ ((lockkeeperref7_each.calls l p true _ _ A12.out).mono ?_); rintro e w' ⟨rfl, ⟨nd, rfl⟩⟩; refine ⟨_, rfl, ?_⟩) | ((with_reducible refine gate_callee (f := 155) rfl ?_); refine gL _ Tryz.func155 _ ((lockkeeperref7_Essence.calls l p X _ _ A13.out).mono ?_); rintro e w6a1 ⟨rfl, hb⟩; refine ⟨_, rfl, ?_⟩; replace a := kM a hb; replace HB := bS bE hb; (try clear hb)) | ((with_reducible refine gate_callee (f := 154) rfl ?_); refine gL _ Tryz.func154 _ ((lockkeeperref7_each.calls l p false _ _ G.out).mono ?_); rintro e w' ⟨rfl, ⟨nd, rfl⟩⟩; refine ⟨_, rfl, ?_⟩) | ((with_reducible refine gate_callee (f := 156) rfl ?_); refine gL _ Tryz.func156 _ ((lockkeeperref7_Range.calls l p _ _ G.out).mono ?_); rintro e w' ⟨rfl, ⟨nd, rfl⟩⟩; refine ⟨_, rfl, ?_⟩)); go_ret; exact ⟨rE, bE⟩
def lockkeeperref7_Names.l0 : Nat → List (S28) → List ByteArray → List ByteArray → Int → Int → Option (List ByteArray)
 | 0, _, _, _, _, _ => none
 | k + 1, d, l, m, n, a => if a < (d.length : Int) then (if 0 ≤ a then ((lockkeeperref1_Lower.f ((rd_T28 d a).f0)).bind fun b => (if m.length < 8796093022208 then ((some (m ++ [b] : List ByteArray)).bind fun c => ((lockkeeperref7_Header.f k ((rd_T28 d a).f0) ((rd_T28 d a).f1)).bind fun e => (if e = true then ((lockkeeperref1_Trim.f k ((rd_T28 d a).f1)).bind fun g => (lockkeeperref7_Names.l0 k d l c (wrap64 (n + (g.size : Int))) (wrap64 (a + 1)))) else (if l.length < 8796093022208 then (lockkeeperref7_Names.l0 k d (l ++ [b]) c n (wrap64 (a + 1))) else (none))))) else (none))) else (none)) else (if n > 1024 then ((lockkeeperref1_Rising.f k m).bind fun i => (some i)) else ((lockkeeperref1_Rising.f k l).bind fun j => (some j)))
def lockkeeperref7_Names.f (k : Nat) (l0 : List (S28)) : Option (List ByteArray) := lockkeeperref7_Names.l0 k l0 ([] : List ByteArray) ([] : List ByteArray) 0 0
theorem lockkeeperref7_Names.mono_l : ∀ k, (∀ a b c d e, LeO (lockkeeperref7_Names.l0 k a b c d e) (lockkeeperref7_Names.l0 (k + 1) a b c d e))
 | 0 => fun _ _ _ _ _ r h => by simp [lockkeeperref7_Names.l0] at h
 | k + 1 => by
  have ih0 := lockkeeperref7_Names.mono_l k
  ·intros
   have g := @lockkeeperref1_Rising.mono; have i := @lockkeeperref1_Trim.mono; have j := @lockkeeperref7_Header.mono; unfold lockkeeperref7_Names.l0
   exact moE
theorem lockkeeperref7_Names.mono : ∀ a k, LeO (lockkeeperref7_Names.f k a) (lockkeeperref7_Names.f (k + 1) a) := by
 intro a k
 have ih0 := lockkeeperref7_Names.mono_l k
 have b := @lockkeeperref1_Rising.mono; have c := @lockkeeperref1_Trim.mono; have d := @lockkeeperref7_Header.mono; unfold lockkeeperref7_Names.f
 exact moE
theorem lockkeeperref7_Names.calls (k : Nat) (A0 : Option Addr) (c0 : Nat) (l0 : List (S28)) (r : List ByteArray) (w : World) (a9 : Kd.C k28 w A0 l0.length l0) (aa : l0.length ≤ c0) (h : lockkeeperref7_Names.f k l0 = some r) :
  Calls Tryz.prog 55 #[.slice A0 l0.length c0] w fun e w' => ∃ ab : Value, e = .returned (ab) ∧ Kd.R Kd.string 9 w' w.heap.size (fun _ => True) ab r ∧ Below w.heap.size w w' := by
 have hu28 := Tryz.underlying28; have A := Aside0.mk a9; have HC1 := Aside0.mk aa; clear a9 aa; have HB := Aside0.mk (Below.refl w.heap.size w); have H := h; clear h; unfold lockkeeperref7_Names.f at H; have H' := Aside0.mk H; clear H; go_enter Tryz.func55, Tryz.ntmps55; go_wp2
 go_loopg [3, 4, 5, 6] k (fun kq G I ac ad w' => ∃ (i : List ByteArray) (j : List ByteArray) (x : Int) (a : Int), ac = .int .i64 x ∧ ad = .int .i64 a ∧ Aside0 (lockkeeperref7_Names.l0 kq l0 i j x a = some r) ∧ Aside0 (kq ≤ k) ∧ Aside0 (Kd.R Kd.string 9 w' w.heap.size (fun k_ => some k_ ≠ (I : Value).ownBlock) G i) ∧ Aside0 (Kd.R Kd.string 9 w' w.heap.size (fun k_ => some k_ ≠ (G : Value).ownBlock) I j) ∧ Aside0 (Below w.heap.size w w'))
 case atStart => exact ⟨(([] : List ByteArray)), (([] : List ByteArray)), (0), (0), rS, rS, H', ⟨Nat.le_refl _⟩, ⟨by first | exact Kd.R_nil _ _ _ _ _ | exact Kd.N_nil _ _ _ _ _ | exact Kd.V_nil _ _ _ _ _ | exact Kd.Q_nil _ _ _ _ _ | exact Kd.S_nil _ _ _ _ _⟩, ⟨by first | exact Kd.R_nil _ _ _ _ _ | exact Kd.N_nil _ _ _ _ _ | exact Kd.V_nil _ _ _ _ _ | exact Kd.Q_nil _ _ _ _ _ | exact Kd.S_nil _ _ _ _ _⟩, ⟨bE⟩⟩
 case round =>
  clear H'; obtain ⟨i, j, x, a, rfl, rfl, HA, X, HO_3, HO_4, HB⟩ := hrel
  cases gk with
  | zero => exact absurd HA.out (by simp [lockkeeperref7_Names.l0])
  | succ k1 =>
   have H := HA.out; clear HA
   simp only [lockkeeperref7_Names.l0] at H
   revert H; refine iteDD_ (fun ae H => ?g1p) (fun ae H => ?g1n)
   case' g1p =>
    revert H; refine iteND_ fun J H => ?_; replace H := bd_ H; obtain ⟨z, A4, H⟩ := H; revert H; refine iteNA_ fun K H => ?_
    try replace H := bsm_ H
    generalize hy6 : (j ++ [z]) = y6 at H; have Ny6 := Aside0.mk hy6.symm; clear hy6; replace H := bd_ H; obtain ⟨t2, A7, H⟩ := H; revert H; refine iteB_ (fun c8 H => ?g2p) (fun c8 H => ?g2n)
    case' g2p =>
     subst c8; replace H := bd_ H; obtain ⟨t3, A9, H⟩ := H; have H' := Aside0.mk H; clear H; have Y : 0 ≤ (a : Int) := of_decide_eq_true mE; have Z : a < (l0.length : Int) := of_decide_eq_true mE; obtain ⟨L, e4, p, q⟩ := at_T28 A.out a Y Z
     cases e4
     replace p := (HB.out.cell (World.block_lt_of_cell? w _ p)).trans p; replace q := (HB.out.cell (World.block_lt_of_cell? w _ q)).trans q; replace Y := eq_true Y; replace Z := eq_true Z; have G4 := trivial; have G5 := trivial; have M := trivial; have M9_0 := trivial
    case' g2n =>
     subst c8; revert H; refine iteNA_ fun LMc9 H => ?_
     try replace H := bsm_ H
     generalize O : (i ++ [z]) = y10 at H; have Ny10 := Aside0.mk O.symm; clear O; have H' := Aside0.mk H; clear H; have a0 : 0 ≤ (a : Int) := of_decide_eq_true mE; have a1 : a < (l0.length : Int) := of_decide_eq_true mE; obtain ⟨ad11, e4, s, t⟩ := at_T28 A.out a a0 a1
     cases e4
     replace s := (HB.out.cell (World.block_lt_of_cell? w _ s)).trans s; replace t := (HB.out.cell (World.block_lt_of_cell? w _ t)).trans t; replace a0 := eq_true a0; replace a1 := eq_true a1; have G6 := trivial; have G7 := trivial; have M := trivial; have M9_1 := trivial
   case' g1n =>
    revert H; refine iteGG_ (fun J H => ?g3p) (fun J H => ?g3n)
    case' g3p =>
     replace H := bd_ H; obtain ⟨z, A4, H⟩ := H; obtain rfl := si_ H; obtain ⟨Ao2, co2, a2⟩ := Kd.R_slice HO_4.out; subst a2; have U := trivial; have a3 := trivial
    case' g3n =>
     replace H := bd_ H; obtain ⟨z, A4, H⟩ := H; obtain rfl := si_ H; obtain ⟨Ao2, co2, a2⟩ := Kd.R_slice HO_3.out; subst a2; have U := trivial; have a4 := trivial
   all_goals
    go_wp2_with (first | ((with_reducible refine gate_callee (f := 107) rfl ?_); refine gL _ Tryz.func107 _ ((lockkeeperref1_Lower.calls ((rd_T28 l0 a).f0) _ _ A4.out).mono ?_); rintro e w1a1 ⟨rfl, hb⟩; refine ⟨_, rfl, ?_⟩; replace HO_3 := rM HO_3 hb; replace HO_4 := rM HO_4 hb; replace HB := bS bE hb; (try clear hb)) | (have z_ := G4; clear z_; ((with_reducible refine gate_builtin (b := .append) (xs := #[.tmp 20, .tmp 22]) rfl ?_); at_builtin; refine Kd.R_append Kd.string (w0 := w) w.heap.size rfl (.tmp 20) (.tmp 22) 39 9 (.string ⟨#[]⟩) 16 rfl Tryz.underlying39 info9 rfl (by decide) (by omega) u4 j z [.string z] (fun k_ => some k_ ≠ (u3 : Value).ownBlock) (fun _ => False) rfl rfl ?aP (fun _ hk => hk.elim) ?aF ?aO ?aB ?aS ?aL ?_; (case aP => exact rfl); (case aB => exact bE); (case aF => exact (fun k_ hk => Kd.fresh' (Kd.R_lt (rK HO_3.out)) k_ hk)); (case aO => exact (rK HO_4.out)); (case aS => exact (below_size bE)); (case aL => have := K.out; omega); intro W w2a2 ho hb hg hat; rw [← Ny6.out] at ho; have n0_ := Aside0.mk (Kd.R_after (ok := (fun _ => True)) (rK (Kd.R_mono HO_3.out (fun _ hk => ⟨trivial, hk⟩))) hg hat); have n1_ := Aside0.mk (hb); have n2_ := Aside0.mk (ho); clear HO_3; clear HB; clear HO_4; have HO_3 := n0_; have HB := n1_; have c := n2_; clear n0_ n1_ n2_; clear ho hb hg hat; have l : 0 ≤ (a : Int) := of_decide_eq_true mE; have m : a < (l0.length : Int) := of_decide_eq_true mE; obtain ⟨y, B, d, g⟩ := at_T28 A.out a l m; obtain rfl : L = y := (by injection B); replace d := (HB.out.cell (World.block_lt_of_cell? w _ d)).trans d; replace g := (HB.out.cell (World.block_lt_of_cell? w _ g)).trans g; replace l := eq_true l; replace m := eq_true m)) | (have z_ := G5; clear z_; ((with_reducible refine gate_callee (f := 115) rfl ?_); refine gL _ Tryz.func115 _ ((lockkeeperref7_Header.calls k1 ((rd_T28 l0 a).f0) ((rd_T28 l0 a).f1) _ _ A7.out).mono ?_); rintro e w3a1 ⟨rfl, hb⟩; refine ⟨_, rfl, ?_⟩; replace HO_3 := rM HO_3 hb; replace c := rM c hb; replace HB := bS bE hb; (try clear hb); have D : 0 ≤ (a : Int) := of_decide_eq_true mE; have E : a < (l0.length : Int) := of_decide_eq_true mE; obtain ⟨a5, e3a3, n, o⟩ := at_T28 A.out a D E; obtain rfl : L = a5 := (by injection e3a3); replace n := (HB.out.cell (World.block_lt_of_cell? w _ n)).trans n; replace o := (HB.out.cell (World.block_lt_of_cell? w _ o)).trans o; replace D := eq_true D; replace E := eq_true E)) | ((with_reducible refine gate_callee (f := 113) rfl ?_); refine gL _ Tryz.func113 _ ((lockkeeperref1_Trim.calls k1 ((rd_T28 l0 a).f1) _ _ A9.out).mono ?_); rintro e w' ⟨rfl, ⟨nd, rfl⟩⟩; refine ⟨_, rfl, ?_⟩) | (have z_ := G6; clear z_; ((with_reducible refine gate_builtin (b := .append) (xs := #[.tmp 20, .tmp 22]) rfl ?_); at_builtin; refine Kd.R_append Kd.string (w0 := w) w.heap.size rfl (.tmp 20) (.tmp 22) 39 9 (.string ⟨#[]⟩) 16 rfl Tryz.underlying39 info9 rfl (by decide) (by omega) u4 j z [.string z] (fun k_ => some k_ ≠ (u3 : Value).ownBlock) (fun _ => False) rfl rfl ?aP (fun _ hk => hk.elim) ?aF ?aO ?aB ?aS ?aL ?_; (case aP => exact rfl); (case aB => exact bE); (case aF => exact (fun k_ hk => Kd.fresh' (Kd.R_lt (rK HO_3.out)) k_ hk)); (case aO => exact (rK HO_4.out)); (case aS => exact (below_size bE)); (case aL => have := K.out; omega); intro W w2a2 ho hb hg hat; rw [← Ny6.out] at ho; have n0_ := Aside0.mk (Kd.R_after (ok := (fun _ => True)) (rK (Kd.R_mono HO_3.out (fun _ hk => ⟨trivial, hk⟩))) hg hat); have n1_ := Aside0.mk (hb); have n2_ := Aside0.mk (ho); clear HO_3; clear HB; clear HO_4; have HO_3 := n0_; have HB := n1_; have c := n2_; clear n0_ n1_ n2_; clear ho hb hg hat; have l : 0 ≤ (a : Int) := of_decide_eq_true mE; have m : a < (l0.length : Int) := of_decide_eq_true mE; obtain ⟨y, B, d, g⟩ := at_T28 A.out a l m; obtain rfl : ad11 = y := (by injection B); replace d := (HB.out.cell (World.block_lt_of_cell? w _ d)).trans d; replace g := (HB.out.cell (World.block_lt_of_cell? w _ g)).trans g; replace l := eq_true l; replace m := eq_true m)) | (have z_ := G7; clear z_; ((with_reducible refine gate_callee (f := 115) rfl ?_); refine gL _ Tryz.func115 _ ((lockkeeperref7_Header.calls k1 ((rd_T28 l0 a).f0) ((rd_T28 l0 a).f1) _ _ A7.out).mono ?_); rintro e w3a1 ⟨rfl, hb⟩; refine ⟨_, rfl, ?_⟩; replace HO_3 := rM HO_3 hb; replace c := rM c hb; replace HB := bS bE hb; (try clear hb))) | ((with_reducible refine gate_builtin (b := .append) (xs := #[.tmp 30, .tmp 32]) rfl ?_); at_builtin; refine Kd.R_append Kd.string (w0 := w) w.heap.size rfl (.tmp 30) (.tmp 32) 39 9 (.string ⟨#[]⟩) 16 rfl Tryz.underlying39 info9 rfl (by decide) (by omega) u3 i z [.string z] (fun k_ => some k_ ≠ (W : Value).ownBlock) (fun _ => False) rfl rfl ?aP (fun _ hk => hk.elim) ?aF ?aO ?aB ?aS ?aL ?_; (case aP => exact rfl); (case aB => exact bE); (case aF => exact (fun k_ hk => Kd.fresh' (Kd.R_lt (rK c.out)) k_ hk)); (case aO => exact (rK (Kd.R_mono HO_3.out (fun _ hk => hk.2)))); (case aS => exact (below_size bE)); (case aL => have := LMc9.out; omega); intro v5a1 w5a2 ho hb hg hat; rw [← Ny10.out] at ho; have n0_ := Aside0.mk (Kd.R_after (ok := (fun _ => True)) (rK (Kd.R_mono c.out (fun _ hk => ⟨trivial, hk⟩))) hg hat); have n1_ := Aside0.mk (hb); have n2_ := Aside0.mk (ho); clear c; clear HB; clear HO_3; have c := n0_; have HB := n1_; have a6 := n2_; clear n0_ n1_ n2_; clear ho hb hg hat) | ((with_reducible refine gate_callee (f := 116) rfl ?_); refine gL _ Tryz.func116 _ ((lockkeeperref1_Rising.calls k1 _ _ j z _ ?side1 ?side2 A4.out).mono ?_); (case side1 => repeat (first | exact (Kd.R_reads' HO_4.out).2.2 | (with_reducible refine Kd.C_alloc ?_ _) | (with_reducible refine Kd.C_drewN ?_ _) | (with_reducible refine Kd.C_drew ?_))); (case side2 => exact (Kd.R_reads' HO_4.out).2.1); rintro e w6a1 ⟨v6a2, rfl, u, hb⟩; refine ⟨_, rfl, ?_⟩; have n0_ := Aside0.mk (Kd.R_elder' (rK HO_3.out) (Kd.R_base u) hb); have n1_ := Aside0.mk (Kd.R_elder' (rK HO_4.out) (Kd.R_base u) hb); have n2_ := Aside0.mk (Kd.R_lower (Kd.R_new' (Kd.R_new' u (Kd.R_lt (rK HO_3.out))) (Kd.R_lt (rK HO_4.out))) (below_size bE)); have n3_ := bS bE hb; clear HO_3; clear HO_4; clear HB; have HO_3 := n0_; have HO_4 := n1_; have a7 := n2_; have HB := n3_; clear n0_ n1_ n2_ n3_; (try clear hb); (try clear hb2); (try clear hk); (try clear hi); (try clear u)) | ((with_reducible refine gate_callee (f := 116) rfl ?_); refine gL _ Tryz.func116 _ ((lockkeeperref1_Rising.calls k1 _ _ i z _ ?side1 ?side2 A4.out).mono ?_); (case side1 => repeat (first | exact (Kd.R_reads' HO_3.out).2.2 | (with_reducible refine Kd.C_alloc ?_ _) | (with_reducible refine Kd.C_drewN ?_ _) | (with_reducible refine Kd.C_drew ?_))); (case side2 => exact (Kd.R_reads' HO_3.out).2.1); rintro e w7a1 ⟨v7a2, rfl, v, hb⟩; refine ⟨_, rfl, ?_⟩; have n0_ := Aside0.mk (Kd.R_elder' (rK HO_3.out) (Kd.R_base v) hb); have n1_ := Aside0.mk (Kd.R_elder' (rK HO_4.out) (Kd.R_base v) hb); have n2_ := Aside0.mk (Kd.R_lower (Kd.R_new' (Kd.R_new' v (Kd.R_lt (rK HO_3.out))) (Kd.R_lt (rK HO_4.out))) (below_size bE)); have n3_ := bS bE hb; clear HO_3; clear HO_4; clear HB; have HO_3 := n0_; have HO_4 := n1_; have a8 := n2_; have HB := n3_; clear n0_ n1_ n2_ n3_; (try clear hb); (try clear hb2); (try clear hk); (try clear hi); (try clear v)))
    first
    | clear M
      go_roundg k1
      case measure => have := X.out; omega
      first
      | clear M9_0
        case rel => exact ⟨(i), (y6), (wrap64 (x + (t3.size : Int))), (wrap64 (a + 1)), rS, rS, H', ⟨by have := X.out; omega⟩, ⟨rK (Kd.R_mono HO_3.out (fun _ hk => hk.2))⟩, ⟨by (with_reducible repeat (first | apply Kd.R_alloc | apply Kd.R_drewN | apply Kd.R_drew)); exact c.out⟩, ⟨bE⟩⟩
      | clear M9_1
        case rel => exact ⟨(y10), (y6), (x), (wrap64 (a + 1)), rS, rS, H', ⟨by have := X.out; omega⟩, ⟨by (with_reducible repeat (first | apply Kd.R_alloc | apply Kd.R_drewN | apply Kd.R_drew)); exact a6.out⟩, ⟨rK (Kd.R_mono c.out (fun _ hk => hk.2))⟩, ⟨bE⟩⟩
    | clear U
      go_ret
      first
      | clear a3
        exact ⟨_, rE, by (with_reducible repeat (first | apply Kd.R_alloc | apply Kd.R_drewN | apply Kd.R_drew)); exact Kd.R_mono a7.out (fun _ hk => trivial), bE⟩
      | clear a4
        exact ⟨_, rE, by (with_reducible repeat (first | apply Kd.R_alloc | apply Kd.R_drewN | apply Kd.R_drew)); exact Kd.R_mono a8.out (fun _ hk => trivial), bE⟩
mutual
def lockkeeperref4_fits.j0 : Nat → Bool → ByteArray → ByteArray → Int → ByteArray → ByteArray → Option (Bool)
 | 0, _, _, _, _, _, _ => none
 | k + 1, g, a, b, c, d, e => if g = true then (some false) else (lockkeeperref4_fits.l0 k 0 a b c d e)
def lockkeeperref4_fits.l0 : Nat → Int → ByteArray → ByteArray → Int → ByteArray → ByteArray → Option (Bool)
 | 0, _, _, _, _, _, _ => none
 | k + 1, i, b, c, d, a, e => if i < (a.size : Int) then (if 0 ≤ i then ((lockkeeperref4_pathByte.f k (bt a i)).bind fun g => (if g = true then (lockkeeperref4_fits.l0 k (wrap64 (i + 1)) b c d a e) else (some false))) else (none)) else (lockkeeperref4_fits.l1 k 1 b c d a e)
def lockkeeperref4_fits.l1 : Nat → Int → ByteArray → ByteArray → Int → ByteArray → ByteArray → Option (Bool)
 | 0, _, _, _, _, _, _ => none
 | k + 1, i, b, c, d, e, a => if i < (a.size : Int) then (if 0 ≤ i then ((lockkeeperref4_queryByte.f k (bt a i)).bind fun g => (if g = true then (lockkeeperref4_fits.l1 k (wrap64 (i + 1)) b c d e a) else (some false))) else (none)) else (some true)
end
def lockkeeperref4_fits.f (k : Nat) (c d : ByteArray) (e : Int) (a b : ByteArray) : Option (Bool) := if a.toList = ([] : List UInt8) then (lockkeeperref4_fits.j0 k true c d e a b) else (if 0 < (a.size : Int) then (if (bt a 0) = 47 then ((lockkeeperref4_Clean.f k a).bind fun g => (if g.toList = a.toList then (if b.toList = ([] : List UInt8) then (lockkeeperref4_fits.j0 k false c d e a b) else (if 0 < (b.size : Int) then (lockkeeperref4_fits.j0 k ((bt b 0) != 63) c d e a b) else (none))) else (lockkeeperref4_fits.j0 k true c d e a b))) else (lockkeeperref4_fits.j0 k true c d e a b)) else (none))
theorem lockkeeperref4_fits.mono_l : ∀ k, (∀ a b c d e g, LeO (lockkeeperref4_fits.j0 k a b c d e g) (lockkeeperref4_fits.j0 (k + 1) a b c d e g)) ∧ (∀ a b c d e g, LeO (lockkeeperref4_fits.l0 k a b c d e g) (lockkeeperref4_fits.l0 (k + 1) a b c d e g)) ∧ (∀ a b c d e g, LeO (lockkeeperref4_fits.l1 k a b c d e g) (lockkeeperref4_fits.l1 (k + 1) a b c d e g))
 | 0 => ⟨fun _ _ _ _ _ _ r h => by simp [lockkeeperref4_fits.j0] at h, fun _ _ _ _ _ _ r h => by simp [lockkeeperref4_fits.l0] at h, fun _ _ _ _ _ _ r h => by simp [lockkeeperref4_fits.l1] at h⟩
 | k + 1 => by
  obtain ⟨ih0, ih1, ih2⟩ := lockkeeperref4_fits.mono_l k
  have i := @lockkeeperref4_Clean.mono; have j := @lockkeeperref4_pathByte.mono; have l := @lockkeeperref4_queryByte.mono
  refine ⟨?_, ?_, ?_⟩
  ·intros
   unfold lockkeeperref4_fits.j0
   exact moE
  ·intros
   unfold lockkeeperref4_fits.l0
   exact moE
  ·intros
   unfold lockkeeperref4_fits.l1
   exact moE
theorem lockkeeperref4_fits.mono : ∀ a b c d e k, LeO (lockkeeperref4_fits.f k a b c d e) (lockkeeperref4_fits.f (k + 1) a b c d e) := by
 intro a b c d e k
 obtain ⟨ih0, ih1, ih2⟩ := lockkeeperref4_fits.mono_l k
 have g := @lockkeeperref4_Clean.mono; have i := @lockkeeperref4_pathByte.mono; have j := @lockkeeperref4_queryByte.mono; unfold lockkeeperref4_fits.f
 exact moE
def lockkeeperref4_fits.T1 : Bool × List (List Nat × List Nat) := (true, [([], []), ([0], [0]), ([1], [1]), ([2], [2]), ([3], [3]), ([4, 3], [3, 4]), ([5, 3], [3, 5]), ([6, 3], [3, 6]), ([3, 7], [3, 7]), ([8, 3], [8]), ([9], [9]), ([10, 9], [9, 10]), ([11, 9, 9], [9, 11]), ([9], [9]), ([13, 9], [9, 13]), ([12, 14, 9], [9, 12, 14]), ([9, 15], [9, 15]), ([16, 12], [16]), ([17], [17]), ([18, 17], [17, 18]), ([19, 17], [17, 19]), ([20, 17, 17], [17, 20]), ([21], [21]), ([22, 21], [21, 22]), ([23, 21], [21, 23]), ([24, 21], [21, 24]), ([21, 25, 17], [17, 21, 25]), ([17, 26], [17, 26])])
def lockkeeperref4_fits.B1 : List Nat := [0, 1, 3, 7, 15, 31, 63, 127, 255, 511, 1023, 2047, 4095, 1023, 9215, 32767, 65535, 131071, 262143, 524287, 1048575, 2097151, 4194303, 8388607, 16777215, 33554431, 67108863, 134217727]
theorem lockkeeperref4_fits.tab1 : rtab .any (opsOf Tryz.f158 1) = lockkeeperref4_fits.T1 := by kernel_rfl
theorem lockkeeperref4_fits.bits1 : waitsOk lockkeeperref4_fits.T1.2 lockkeeperref4_fits.B1 = true := by kernel_rfl
theorem lockkeeperref4_fits.calls (k : Nat) (g i : ByteArray) (j : Int) (b c : ByteArray) (r : Bool) (w : World) (h : lockkeeperref4_fits.f k g i j b c = some r) :
  Calls Tryz.prog 158 #[.agg #[.string g, .string i, .int .i64 j, .string b, .string c]] w fun e w' => e = .returned (.bool r) ∧ Below w.heap.size w w' := by
 have hu72 := Tryz.underlying72; have HB := Aside0.mk (Below.refl w.heap.size w); have H := h; clear h; unfold lockkeeperref4_fits.f at H; have a7 := Aside0.mk H; clear H; go_enter Tryz.func158, Tryz.ntmps158
 go_upto_region 1 with (first | ((with_reducible refine gate_dst (N := 1) rfl ?_); refine bxE (N := 1) (cs := #[.string g, .string i, .int .i64 j, .string b, .string c]) (t := 72) fun d hg a5 hbox hb => ?_; obtain ⟨HB', a, a8⟩ := bx_ bE hg hbox hb; have GE1a1 := a8; clear HB hb hbox hg; have HB := HB'; clear HB'))
 (try simp only [Act.put, List.setIfInBounds_toArray, List.set_cons_zero, List.set_cons_succ])
 go_cut [32] (fun aC wc => ∃ (kq : Nat) (p : Bool), aC = .bool p ∧ Aside0 (lockkeeperref4_fits.j0 kq p g i j b c = some r) ∧ Aside0 (kq ≤ k) ∧ Aside0 (wc.heap[d]? = some (.cells #[.string g, .string i, .int .i64 j, .string b, .string c] 72 (0, 0))) ∧ Aside0 (Below w.heap.size w wc))
 case first =>
  have H := a7.out; clear a7; revert H; refine iteEF_ (fun o aD H => ?g1p) (fun c2 o aD H => ?g1n)
  case' g1p =>
   (first | rw [o] | (simp only [i64_w, i32_w]; rw [o]) | skip); have H' := Aside0.mk H; clear H; have aE := trivial
  case' g1n =>
   (first | rw [o] | (simp only [i64_w, i32_w]; rw [o]) | skip); revert H; refine iteNP_ fun c3 H => ?_; have c3b0 := decide_eq_true c3; have c3b1 : decide (0 < b.size) = true := decide_eq_true (by omega); clear c3; revert H; refine iteEF_ (fun c4b0 c4b1 H => ?g2p) (fun c4 c4b0 c4b1 H => ?g2n)
   case' g2p =>
    replace H := bd_ H; obtain ⟨t1, A5, H⟩ := H; revert H; refine iteEF_ (fun q u H => ?g3p) (fun c6 q u H => ?g3n)
    case' g3p =>
     revert H; refine iteEF_ (fun c7b0 c7b1 H => ?g4p) (fun c7 c7b0 c7b1 H => ?g4n)
     case' g4p =>
      have H' := Aside0.mk H; clear H; have v := trivial; have y := trivial; have a6 := trivial; have M8_0 := trivial
     case' g4n =>
      revert H; refine iteNP_ fun c8 H => ?_; have c8b0 := decide_eq_true c8; have c8b1 : decide (0 < c.size) = true := decide_eq_true (by omega); clear c8; have H' := Aside0.mk H; clear H; have v := trivial; have y := trivial; have M7_1 := trivial
    case' g3n =>
     have H' := Aside0.mk H; clear H; have v := trivial; have y := trivial; have a6 := trivial; have M8_1 := trivial
   case' g2n =>
    have H' := Aside0.mk H; clear H; have v := trivial; have M6_1 := trivial
  all_goals
   try go_wp2
   have n0_ := Aside0.mk (blk_drew a.out); have n1_ := Aside0.mk (below_drew1 HB.out); clear a; clear HB; have a := n0_; have HB := n1_; clear n0_ n1_
   first
   | clear aE
     refine start_ (n := 28) (S := fun w' => w'.cell? ⟨d, 0, none⟩ = some (.string g) ∧ w'.cell? ⟨d, 1, none⟩ = some (.string i) ∧ w'.cell? ⟨d, 2, none⟩ = some (.int .i64 j) ∧ w'.cell? ⟨d, 3, none⟩ = some (.string b) ∧ w'.cell? ⟨d, 4, none⟩ = some (.string c)) (ds := []) (bz 28 0) (by kernel_rfl) rfl rfl (bkc5_ a) (fun hHeld => ?_); refine with_tabW lockkeeperref4_fits.tab1 lockkeeperref4_fits.bits1 (fun HT_ HW_ => ?_); generalize a5.drew = w15s1 at a HB hHeld ⊢; refine qA 0 5 28 1 ?_; refine tA5 1 6 28 3 ?_; refine qA 2 7 28 7 ?_; refine qA 3 8 28 15 ?_; refine qU 4 9 28 31 ?_; refine qU 5 10 28 63 ?_; refine qU 6 11 28 127 ?_; refine qU 7 12 28 255 ?_; refine qA 8 13 28 511 ?_; refine qA 9 14 28 1023 ?_; refine qU 10 15 28 2047 ?_; refine qU 11 16 28 4095 ?_; refine qU 12 17 28 8191 ?_; refine qU 13 18 28 16383 ?_; refine qU 14 19 28 32767 ?_; refine qU 15 20 28 65535 ?_; refine qA 16 21 28 131071 ?_; refine qA 17 22 28 262143 ?_; refine qU 18 23 28 524287 ?_; refine qU 19 24 28 1048575 ?_; refine qU 20 25 28 2097151 ?_; refine qU 21 26 28 4194303 ?_; refine qU 22 27 28 8388607 ?_; refine qU 23 28 28 16777215 ?_; refine qU 24 29 28 33554431 ?_; refine qU 25 30 28 67108863 ?_; refine qU 26 31 28 134217727 ?_; refine qA 27 32 28 268435455 ?_; refine done_ (done_of HT_.out (by kernel_rfl)) ?_
     try go_wp2
     go_meet
     case rel => exact ⟨_, (true), rS, H', ⟨oE⟩, ⟨kC a⟩, ⟨bE⟩⟩
   | clear v
     have a9 : 0 ≤ (0 : Int) := (by omega); have z : 0 < b.size := (by have : (0 : Int) < (b.size : Int) := of_decide_eq_true mE; omega); have hx14s1 : ∀ h : 0 < b.size, ((b[0]'h).toNat : Int) = bt b 0 := bt_at b 0; clear a9; have qi14s1 : (0 < (b.size : Int)) = True := eq_true (of_decide_eq_true mE); replace z := eq_true z; refine start_ (n := 28) (S := fun w' => w'.cell? ⟨d, 0, none⟩ = some (.string g) ∧ w'.cell? ⟨d, 1, none⟩ = some (.string i) ∧ w'.cell? ⟨d, 2, none⟩ = some (.int .i64 j) ∧ w'.cell? ⟨d, 3, none⟩ = some (.string b) ∧ w'.cell? ⟨d, 4, none⟩ = some (.string c)) (ds := []) (bz 28 0) (by kernel_rfl) rfl rfl (bkc5_ a) (fun hHeld => ?_); refine with_tabW lockkeeperref4_fits.tab1 lockkeeperref4_fits.bits1 (fun HT_ HW_ => ?_); generalize a5.drew = w21s1 at a HB hHeld ⊢; refine qA 0 5 28 1 ?_; refine tA5 1 6 28 3 ?_; refine qA 2 7 28 7 ?_; refine qA 3 8 28 15 ?_; refine qA 4 9 28 31 ?_; refine tA5 5 10 28 63 ?_; refine tA5 6 11 28 127 ?_; refine qA 7 12 28 255 ?_; refine qA 8 13 28 511 ?_; refine qA 9 14 28 1023 ?_
     first
     | clear y
       refine qA 10 15 28 2047 ?_; refine qA 13 18 28 10239 ?_; refine tA5 11 16 28 12287 ?_; refine tA5 14 19 28 28671 ?_; refine oB 12 17 28 32767 fun K hK => ?_; refine gS Tryz.func106 #[.string b] ?_
       with_reducible refine (lockkeeperref4_Clean.calls k b t1 _ A5.out).mono ?_
       rintro e w39s1 ⟨rfl, hb⟩; refine ⟨_, rfl, ?_⟩; replace a := kM a hb; replace HB := bS bE hb; (try clear hb)
       first
       | clear a6
         refine hK.out _ _ (bkc5_ a) (fun hHeld => ?_); clear hK K; refine nA 17 ?_; refine qA 15 20 28 65535 ?_; refine qA 16 21 28 131071 ?_; refine qA 17 22 28 262143 ?_
         first
         | clear M8_0
           refine qA 18 23 28 524287 ?_; refine tA5 19 24 28 1048575 ?_; refine qA 20 25 28 2097151 ?_; refine qA 21 26 28 4194303 ?_; refine qU 22 27 28 8388607 ?_; refine qU 23 28 28 16777215 ?_; refine qU 24 29 28 33554431 ?_; refine qU 25 30 28 67108863 ?_; refine qA 26 31 28 134217727 ?_; refine qA 27 32 28 268435455 ?_; refine done_ (done_of HT_.out (by kernel_rfl)) ?_
           try go_wp2
           go_meet
           case rel => exact ⟨_, (false), rS, H', ⟨oE⟩, ⟨kC a⟩, ⟨bE⟩⟩
         | clear M8_1
           refine qU 18 23 28 524287 ?_; refine qU 19 24 28 1048575 ?_; refine qU 20 25 28 2097151 ?_; refine qU 21 26 28 4194303 ?_; refine qU 22 27 28 8388607 ?_; refine qU 23 28 28 16777215 ?_; refine qU 24 29 28 33554431 ?_; refine qU 25 30 28 67108863 ?_; refine qU 26 31 28 134217727 ?_; refine qA 27 32 28 268435455 ?_; refine done_ (done_of HT_.out (by kernel_rfl)) ?_
           try go_wp2
           go_meet
           case rel => exact ⟨_, (true), rS, H', ⟨oE⟩, ⟨kC a⟩, ⟨bE⟩⟩
       | clear M7_1
         have aa : 0 ≤ (0 : Int) := (by omega); have A : 0 < c.size := (by have : (0 : Int) < (c.size : Int) := of_decide_eq_true mE; omega); have hx42s1 : ∀ h : 0 < c.size, ((c[0]'h).toNat : Int) = bt c 0 := bt_at c 0; clear aa; have qi42s1 : (0 < (c.size : Int)) = True := eq_true (of_decide_eq_true mE); replace A := eq_true A; refine hK.out _ _ (bkc5_ a) (fun hHeld => ?_); clear hK K; refine nA 17 ?_; refine qA 15 20 28 65535 ?_; refine qA 16 21 28 131071 ?_; refine qA 17 22 28 262143 ?_; refine qA 18 23 28 524287 ?_; refine tA5 19 24 28 1048575 ?_; refine qA 20 25 28 2097151 ?_; refine qA 21 26 28 4194303 ?_; refine qA 22 27 28 8388607 ?_; refine tA5 23 28 28 16777215 ?_; refine tA5 24 29 28 33554431 ?_; refine qA 25 30 28 67108863 ?_; refine qA 26 31 28 134217727 ?_; refine qA 27 32 28 268435455 ?_; refine done_ (done_of HT_.out (by kernel_rfl)) ?_
         try go_wp2
         go_meet
         case rel => exact ⟨_, (((bt c 0) != 63)), rS, H', ⟨oE⟩, ⟨kC a⟩, ⟨bE⟩⟩
     | clear M6_1
       refine qU 10 15 28 2047 ?_; refine qU 11 16 28 4095 ?_; refine qU 12 17 28 8191 ?_; refine qU 13 18 28 16383 ?_; refine qU 14 19 28 32767 ?_; refine qU 15 20 28 65535 ?_; refine qA 16 21 28 131071 ?_; refine qA 17 22 28 262143 ?_; refine qU 18 23 28 524287 ?_; refine qU 19 24 28 1048575 ?_; refine qU 20 25 28 2097151 ?_; refine qU 21 26 28 4194303 ?_; refine qU 22 27 28 8388607 ?_; refine qU 23 28 28 16777215 ?_; refine qU 24 29 28 33554431 ?_; refine qU 25 30 28 67108863 ?_; refine qU 26 31 28 134217727 ?_; refine qA 27 32 28 268435455 ?_; refine done_ (done_of HT_.out (by kernel_rfl)) ?_
       try go_wp2
       go_meet
       case rel => exact ⟨_, (true), rS, H', ⟨oE⟩, ⟨kC a⟩, ⟨bE⟩⟩
 case rest =>
  clear a7; (try clear c2); (try clear c3); (try clear c6); (try clear q); (try clear u); (try clear c7); obtain ⟨kq, p, rfl, HA, E, a, HB⟩ := hcut
  cases kq with
  | zero => exact absurd HA.out (by simp [lockkeeperref4_fits.j0])
  | succ kj1 =>
   have H := HA.out; clear HA
   simp only [lockkeeperref4_fits.j0] at H
   revert H; refine iteB_ (fun c9 H => ?g9p) (fun c9 H => ?g9n)
   case' g9p =>
    subst c9; obtain rfl := si_ H; have ab := trivial
   case' g9n =>
    subst c9; have H' := Aside0.mk H; clear H; have ac := trivial
   all_goals
    go_wp2
    first
    | clear ab
      go_ret; exact ⟨rE, bE⟩
    | clear ac
      go_loopg [3] kj1 (fun kq v8s1 w' => ∃ (l : Int), v8s1 = .int .i64 l ∧ Aside0 (lockkeeperref4_fits.l0 kq l g i j b c = some r) ∧ Aside0 (kq ≤ kj1) ∧ Aside0 (w'.heap[d]? = some (.cells #[.string g, .string i, .int .i64 j, .string b, .string c] 72 (0, 0))) ∧ Aside0 (Below w.heap.size w w'))
      case atStart => exact ⟨(0), rS, H', ⟨Nat.le_refl _⟩, ⟨kC a⟩, ⟨bE⟩⟩
      case round =>
       clear H'; (try clear c2); (try clear c3); (try clear c6); (try clear q); (try clear u); (try clear c7); (try clear c9); obtain ⟨l, rfl, HA, G, a, HB⟩ := hrel
       cases gk with
       | zero => exact absurd HA.out (by simp [lockkeeperref4_fits.l0])
       | succ k2 =>
        have H := HA.out; clear HA
        simp only [lockkeeperref4_fits.l0] at H
        revert H; refine iteDD_ (fun B H => ?g11p) (fun B H => ?g11n)
        case' g11p =>
         revert H; refine iteND_ fun c11b0 H => ?_; replace H := bd_ H; obtain ⟨t2, A12, H⟩ := H; revert H; refine iteB_ (fun ad H => ?g12p) (fun ad H => ?g12n)
         case' g12p =>
          subst ad; have H' := Aside0.mk H; clear H; obtain ⟨ae, af, ag, ah, ai, I, J, L, M, O⟩ := bk5_ a; obtain ⟨p15, q15, hx15⟩ := btf_ (s := b) (x := l) mE mE; have aj := trivial
         case' g12n =>
          subst ad; obtain rfl := si_ H; obtain ⟨ae, af, ag, ah, ai, I, J, L, M, O⟩ := bk5_ a; obtain ⟨p15, q15, hx15⟩ := btf_ (s := b) (x := l) mE mE; have ak := trivial
        case' g11n =>
         have H' := Aside0.mk H; clear H; obtain ⟨al, am, an, ao, ap, U, W, X, Y, Z⟩ := bk5_ a; have aq := trivial
        all_goals
         go_wp2_with (first | ((with_reducible refine gate_callee (f := 104) rfl ?_); refine gL _ Tryz.func104 _ ((lockkeeperref4_pathByte.calls k2 (bt b l) _ _ A12.out).mono ?_); rintro e w' ⟨rfl, ⟨nd, rfl⟩⟩; refine ⟨_, rfl, ?_⟩))
         first
         | clear aj
           go_roundg k2
           case measure => have := E.out; have := G.out; omega
           case rel => exact ⟨(wrap64 (l + 1)), rS, H', ⟨by have := E.out; have := G.out; omega⟩, ⟨kC a⟩, ⟨bE⟩⟩
         | clear ak
           go_ret; exact ⟨rE, bE⟩
         | clear aq
           go_loopg [4] k2 (fun kq ar w' => ∃ (m : Int), ar = .int .i64 m ∧ Aside0 (lockkeeperref4_fits.l1 kq m g i j b c = some r) ∧ Aside0 (kq ≤ k2) ∧ Aside0 (w'.heap[d]? = some (.cells #[.string g, .string i, .int .i64 j, .string b, .string c] 72 (0, 0))) ∧ Aside0 (Below w.heap.size w w'))
           case atStart => exact ⟨(1), rS, H', ⟨Nat.le_refl _⟩, ⟨kC a⟩, ⟨bE⟩⟩
           case round =>
            clear H'; (try clear c2); (try clear c3); (try clear c6); (try clear q); (try clear u); (try clear c7); (try clear c9); (try clear B); (try clear al); (try clear am); (try clear an); (try clear ao); (try clear ap); (try clear U); (try clear W); (try clear X); (try clear Y); (try clear Z); obtain ⟨m, rfl, HA, HK3, a, HB⟩ := hrel
            cases gk with
            | zero => exact absurd HA.out (by simp [lockkeeperref4_fits.l1])
            | succ k3 =>
             have H := HA.out; clear HA
             simp only [lockkeeperref4_fits.l1] at H
             revert H; refine iteDD_ (fun au H => ?g14p) (fun au H => ?g14n)
             case' g14p =>
              revert H; refine iteND_ fun c18b0 H => ?_; replace H := bd_ H; obtain ⟨t2, A19, H⟩ := H; revert H; refine iteB_ (fun av H => ?g15p) (fun av H => ?g15n)
              case' g15p =>
               subst av; have H' := Aside0.mk H; clear H; obtain ⟨aw, ax, ay, az, aA, a0, a1, a2, a3, a4⟩ := bk5_ a; obtain ⟨p22, q22, hx22⟩ := btf_ (s := c) (x := m) mE mE; have aB := trivial
              case' g15n =>
               subst av; obtain rfl := si_ H; obtain ⟨aw, ax, ay, az, aA, a0, a1, a2, a3, a4⟩ := bk5_ a; obtain ⟨p22, q22, hx22⟩ := btf_ (s := c) (x := m) mE mE; have D := trivial
             case' g14n =>
              obtain rfl := si_ H; obtain ⟨z18_0, z18_1, z18_2, z18_3, z18_4, zf18_0, zf18_1, zf18_2, zf18_3, zf18_4⟩ := bk5_ a; have D := trivial
             all_goals
              go_wp2_with (first | ((with_reducible refine gate_callee (f := 105) rfl ?_); refine gL _ Tryz.func105 _ ((lockkeeperref4_queryByte.calls k3 (bt c m) _ _ A19.out).mono ?_); rintro e w' ⟨rfl, ⟨nd, rfl⟩⟩; refine ⟨_, rfl, ?_⟩))
              first
              | clear aB
                go_roundg k3
                case measure => have := E.out; have := G.out; have := HK3.out; omega
                case rel => exact ⟨(wrap64 (m + 1)), rS, H', ⟨by have := E.out; have := G.out; have := HK3.out; omega⟩, ⟨kC a⟩, ⟨bE⟩⟩
              | clear D
                go_ret; exact ⟨rE, bE⟩
def lockkeeperref4_Check.f (k : Nat) (a b : ByteArray) (c : Int) (d e : ByteArray) : Option (Bool) := (lockkeeperref3_Check.f k a b c).bind fun g => (if g = true then (if (d.size : Int) ≤ 512 then (if (e.size : Int) ≤ 512 then ((lockkeeperref4_fits.f k a b c d e).bind fun i => (if i = true then ((lockkeeperref3_Show.f k a b c).bind fun j => (some (decide ((wrap64 ((wrap64 ((j.size : Int) + (d.size : Int))) + (e.size : Int))) ≤ 512)))) else (some false))) else (some false)) else (some false)) else (some false))
theorem lockkeeperref4_Check.mono : ∀ a b c d e k, LeO (lockkeeperref4_Check.f k a b c d e) (lockkeeperref4_Check.f (k + 1) a b c d e) := by
 intro a b c d e k
 have g := @lockkeeperref3_Check.mono; have i := @lockkeeperref3_Show.mono; have j := @lockkeeperref4_fits.mono; unfold lockkeeperref4_Check.f
 exact moE
def lockkeeperref4_Check.T1 : Bool × List (List Nat × List Nat) := (true, [([], []), ([0], [0]), ([1], [1]), ([2, 2], [2]), ([3], [3]), ([4, 3], [3, 4]), ([5, 3], [3, 5]), ([6, 3], [3, 6]), ([3, 7], [3, 7]), ([8, 3], [8]), ([9], [9]), ([10, 9], [9, 10]), ([11, 9], [9, 11]), ([12, 9], [9, 12]), ([9, 13], [9, 13]), ([14, 9], [14]), ([15], [15]), ([16, 15, 15], [15, 16]), ([15, 17], [15, 17]), ([18, 17], [18]), ([19], [19]), ([20, 19], [19, 20]), ([21, 19, 19], [19, 21]), ([22, 19], [19, 22]), ([19], [19]), ([24, 19], [19, 24]), ([25, 19], [19, 25]), ([23, 26, 19], [19, 23, 26]), ([19], [19]), ([28, 19], [19, 28]), ([29, 19], [19, 29]), ([27, 30, 19], [19, 27, 30]), ([31, 19], [19, 31]), ([19, 32], [19, 32]), ([33, 22, 0, 1, 2, 3, 4, 5, 6, 7, 8, 9, 10, 11, 12, 13, 14, 15, 16, 17, 18, 19, 20, 21, 22, 23, 24, 25, 26, 27, 28, 29, 30, 31, 32, 33], [33])])
def lockkeeperref4_Check.B1 : List Nat := [0, 1, 3, 7, 15, 31, 63, 127, 255, 511, 1023, 2047, 4095, 8191, 16383, 32767, 65535, 131071, 262143, 524287, 1048575, 2097151, 4194303, 8388607, 1048575, 17825791, 51380223, 134217727, 1048575, 269484031, 806354943, 2147483647, 4294967295, 8589934591, 17179869183]
theorem lockkeeperref4_Check.tab1 : rtab .any (opsOf Tryz.f119 1) = lockkeeperref4_Check.T1 := by kernel_rfl
theorem lockkeeperref4_Check.bits1 : waitsOk lockkeeperref4_Check.T1.2 lockkeeperref4_Check.B1 = true := by kernel_rfl
theorem lockkeeperref4_Check.calls (k : Nat) (b c : ByteArray) (d : Int) (g i : ByteArray) (r : Bool) (w : World) (h : lockkeeperref4_Check.f k b c d g i = some r) :
  Calls Tryz.prog 119 #[.agg #[.string b, .string c, .int .i64 d, .string g, .string i]] w fun e w' => e = .returned (.bool r) ∧ Below w.heap.size w w' := by
 have X := Tryz.underlying72; have Y := Tryz.underlying70; have HB := Aside0.mk (Below.refl w.heap.size w); have H := h; clear h; unfold lockkeeperref4_Check.f at H; replace H := bd_ H; obtain ⟨t1, Z, H⟩ := H; revert H; refine iteB_ (fun L H => ?g1p) (fun L H => ?g1n)
 case' g1p =>
  subst L; revert H; refine itePP_ (fun u H => ?g2p) (fun u H => ?g2n)
  case' g2p =>
   have v := decide_eq_true u; have x : decide (g.size ≤ 512) = true := decide_eq_true (by omega); clear u; revert H; refine itePP_ (fun y H => ?g3p) (fun y H => ?g3n)
   case' g3p =>
    have z := decide_eq_true y; have A : decide (i.size ≤ 512) = true := decide_eq_true (by omega); clear y; replace H := bd_ H; obtain ⟨t2, A5, H⟩ := H; revert H; refine iteB_ (fun M H => ?g4p) (fun M H => ?g4n)
    case' g4p =>
     subst M; replace H := bd_ H; obtain ⟨t3, A7, H⟩ := H; obtain rfl := si_ H; have l := trivial; have m := trivial; have o := trivial; have B := trivial
    case' g4n =>
     subst M; obtain rfl := si_ H; have l := trivial; have m := trivial; have o := trivial; have D := trivial
   case' g3n =>
    have z := decide_eq_false y; have A : decide (i.size ≤ 512) = false := decide_eq_false (by omega); clear y; obtain rfl := si_ H; have l := trivial; have m := trivial; have E := trivial
  case' g2n =>
   have v := decide_eq_false u; have x : decide (g.size ≤ 512) = false := decide_eq_false (by omega); clear u; obtain rfl := si_ H; have l := trivial; have G := trivial
 case' g1n =>
  subst L; obtain rfl := si_ H; have I := trivial
 all_goals
  go_enter Tryz.func119, Tryz.ntmps119
  try go_wp2_with (first | ((with_reducible refine gate_dst (N := 1) rfl ?_); (try (refine gate_guard (by rfl) ?_; dsimp only)); refine bxE (N := 1) (cs := #[.string b, .string c, .int .i64 d, .string g, .string i]) (t := 72) fun j hg J hbox hb => ?_; obtain ⟨HB', a, p⟩ := bx_ bE hg hbox hb; have O := p; clear HB hb hbox hg; have HB := HB'; clear HB'))
  have n0_ := Aside0.mk (blk_drew a.out); have n1_ := Aside0.mk (below_drew1 HB.out); clear a; clear HB; have a := n0_; have HB := n1_; clear n0_ n1_; refine start_ (n := 35) (S := fun w' => w'.cell? ⟨j, 0, none⟩ = some (.string b) ∧ w'.cell? ⟨j, 1, none⟩ = some (.string c) ∧ w'.cell? ⟨j, 2, none⟩ = some (.int .i64 d) ∧ w'.cell? ⟨j, 3, none⟩ = some (.string g) ∧ w'.cell? ⟨j, 4, none⟩ = some (.string i)) (ds := []) (bz 35 0) (by kernel_rfl) rfl rfl (bkc5_ a) (fun hHeld => ?_); refine with_tabW lockkeeperref4_Check.tab1 lockkeeperref4_Check.bits1 (fun HT_ HW_ => ?_); generalize J.drew = U at a HB hHeld ⊢; refine qA 0 3 35 1 ?_; refine tA5 1 4 35 3 ?_; refine oB 2 5 35 7 fun K hK => ?_; refine gS Tryz.func110 #[.agg #[.string b, .string c, .int .i64 d]] ?_
  first
  | clear l
    with_reducible refine (lockkeeperref3_Check.calls k b c d true _ Z.out).mono ?_
    rintro e q ⟨rfl, hb⟩; refine ⟨_, rfl, ?_⟩; replace a := kM a hb; replace HB := bS bE hb; (try clear hb); refine hK.out _ _ (bkc5_ a) (fun hHeld => ?_); clear hK K; refine nA 5 ?_; refine qA 3 6 35 15 ?_; refine qA 4 7 35 31 ?_; refine tA5 5 8 35 63 ?_; refine qA 6 9 35 127 ?_; refine qA 7 10 35 255 ?_; refine qA 8 11 35 511 ?_; refine qA 9 12 35 1023 ?_
    first
    | clear m
      refine qA 10 13 35 2047 ?_; refine tA5 11 14 35 4095 ?_; refine qA 12 15 35 8191 ?_; refine qA 13 16 35 16383 ?_; refine qA 14 17 35 32767 ?_; refine qA 15 18 35 65535 ?_
      first
      | clear o
        refine tA5 16 19 35 131071 ?_; refine oB 17 20 35 262143 fun K hK => ?_; refine gS Tryz.func158 #[.agg #[.string b, .string c, .int .i64 d, .string g, .string i]] ?_
        first
        | clear B
          with_reducible refine (lockkeeperref4_fits.calls k b c d g i true _ A5.out).mono ?_
          rintro e s ⟨rfl, hb⟩; refine ⟨_, rfl, ?_⟩; replace a := kM a hb; replace HB := bS bE hb; (try clear hb); refine hK.out _ _ (bkc5_ a) (fun hHeld => ?_); clear hK K; refine nA 20 ?_; refine qA 18 21 35 524287 ?_; refine qA 19 22 35 1048575 ?_; refine qA 20 23 35 2097151 ?_; refine qA 24 27 35 18874367 ?_; refine qA 28 31 35 287309823 ?_; refine tA5 21 24 35 289406975 ?_; refine tA5 25 28 35 322961407 ?_; refine qA 26 29 35 390070271 ?_; refine tA5 29 32 35 926941183 ?_; refine qA 30 33 35 2000683007 ?_; refine oB 22 25 35 2004877311 fun K hK => ?_; refine gS Tryz.func63 #[.agg #[.string b, .string c, .int .i64 d]] ?_
          with_reducible refine (lockkeeperref3_Show.calls k b c d t3 _ A7.out).mono ?_
          rintro e W ⟨rfl, hb⟩; refine ⟨_, rfl, ?_⟩; replace a := kM a hb; replace HB := bS bE hb; (try clear hb); refine hK.out _ _ (bkc5_ a) (fun hHeld => ?_); clear hK K; refine nA 25 ?_; refine qA 23 26 35 2013265919 ?_; refine qA 27 30 35 2147483647 ?_; refine qA 31 34 35 4294967295 ?_; refine qA 32 35 35 8589934591 ?_; refine qA 33 36 35 17179869183 ?_; refine qA 34 2 35 34359738367 ?_; refine done_ (done_of HT_.out (by kernel_rfl)) ?_
          try go_wp2
          go_ret; exact ⟨rE, bE⟩
        | clear D
          with_reducible refine (lockkeeperref4_fits.calls k b c d g i false _ A5.out).mono ?_
          rintro e s ⟨rfl, hb⟩; refine ⟨_, rfl, ?_⟩; replace a := kM a hb; replace HB := bS bE hb; (try clear hb); refine hK.out _ _ (bkc5_ a) (fun hHeld => ?_); clear hK K; refine nA 20 ?_; refine qA 18 21 35 524287 ?_; refine qA 19 22 35 1048575 ?_; refine qU 20 23 35 2097151 ?_; refine qU 21 24 35 4194303 ?_; refine qU 22 25 35 8388607 ?_; refine qU 23 26 35 16777215 ?_; refine qU 24 27 35 33554431 ?_; refine qU 25 28 35 67108863 ?_; refine qU 26 29 35 134217727 ?_; refine qU 27 30 35 268435455 ?_; refine qU 28 31 35 536870911 ?_; refine qU 29 32 35 1073741823 ?_; refine qU 30 33 35 2147483647 ?_; refine qU 31 34 35 4294967295 ?_; refine qU 32 35 35 8589934591 ?_; refine qA 33 36 35 17179869183 ?_; refine qA 34 2 35 34359738367 ?_; refine done_ (done_of HT_.out (by kernel_rfl)) ?_
          try go_wp2
          go_ret; exact ⟨rE, bE⟩
      | clear E
        refine qU 16 19 35 131071 ?_; refine qU 17 20 35 262143 ?_; refine qA 18 21 35 524287 ?_; refine qA 19 22 35 1048575 ?_; refine qU 20 23 35 2097151 ?_; refine qU 21 24 35 4194303 ?_; refine qU 22 25 35 8388607 ?_; refine qU 23 26 35 16777215 ?_; refine qU 24 27 35 33554431 ?_; refine qU 25 28 35 67108863 ?_; refine qU 26 29 35 134217727 ?_; refine qU 27 30 35 268435455 ?_; refine qU 28 31 35 536870911 ?_; refine qU 29 32 35 1073741823 ?_; refine qU 30 33 35 2147483647 ?_; refine qU 31 34 35 4294967295 ?_; refine qU 32 35 35 8589934591 ?_; refine qA 33 36 35 17179869183 ?_; refine qA 34 2 35 34359738367 ?_; refine done_ (done_of HT_.out (by kernel_rfl)) ?_
        try go_wp2
        go_ret; exact ⟨rE, bE⟩
    | clear G
      refine qU 10 13 35 2047 ?_; refine qU 11 14 35 4095 ?_; refine qU 12 15 35 8191 ?_; refine qU 13 16 35 16383 ?_; refine qA 14 17 35 32767 ?_; refine qA 15 18 35 65535 ?_; refine qU 16 19 35 131071 ?_; refine qU 17 20 35 262143 ?_; refine qA 18 21 35 524287 ?_; refine qA 19 22 35 1048575 ?_; refine qU 20 23 35 2097151 ?_; refine qU 21 24 35 4194303 ?_; refine qU 22 25 35 8388607 ?_; refine qU 23 26 35 16777215 ?_; refine qU 24 27 35 33554431 ?_; refine qU 25 28 35 67108863 ?_; refine qU 26 29 35 134217727 ?_; refine qU 27 30 35 268435455 ?_; refine qU 28 31 35 536870911 ?_; refine qU 29 32 35 1073741823 ?_; refine qU 30 33 35 2147483647 ?_; refine qU 31 34 35 4294967295 ?_; refine qU 32 35 35 8589934591 ?_; refine qA 33 36 35 17179869183 ?_; refine qA 34 2 35 34359738367 ?_; refine done_ (done_of HT_.out (by kernel_rfl)) ?_
      try go_wp2
      go_ret; exact ⟨rE, bE⟩
  | clear I
    with_reducible refine (lockkeeperref3_Check.calls k b c d false _ Z.out).mono ?_
    rintro e q ⟨rfl, hb⟩; refine ⟨_, rfl, ?_⟩; replace a := kM a hb; replace HB := bS bE hb; (try clear hb); refine hK.out _ _ (bkc5_ a) (fun hHeld => ?_); clear hK K; refine nA 5 ?_; refine qA 3 6 35 15 ?_; refine qU 4 7 35 31 ?_; refine qU 5 8 35 63 ?_; refine qU 6 9 35 127 ?_; refine qU 7 10 35 255 ?_; refine qA 8 11 35 511 ?_; refine qA 9 12 35 1023 ?_; refine qU 10 13 35 2047 ?_; refine qU 11 14 35 4095 ?_; refine qU 12 15 35 8191 ?_; refine qU 13 16 35 16383 ?_; refine qA 14 17 35 32767 ?_; refine qA 15 18 35 65535 ?_; refine qU 16 19 35 131071 ?_; refine qU 17 20 35 262143 ?_; refine qA 18 21 35 524287 ?_; refine qA 19 22 35 1048575 ?_; refine qU 20 23 35 2097151 ?_; refine qU 21 24 35 4194303 ?_; refine qU 22 25 35 8388607 ?_; refine qU 23 26 35 16777215 ?_; refine qU 24 27 35 33554431 ?_; refine qU 25 28 35 67108863 ?_; refine qU 26 29 35 134217727 ?_; refine qU 27 30 35 268435455 ?_; refine qU 28 31 35 536870911 ?_; refine qU 29 32 35 1073741823 ?_; refine qU 30 33 35 2147483647 ?_; refine qU 31 34 35 4294967295 ?_; refine qU 32 35 35 8589934591 ?_; refine qA 33 36 35 17179869183 ?_; refine qA 34 2 35 34359738367 ?_; refine done_ (done_of HT_.out (by kernel_rfl)) ?_
    try go_wp2
    go_ret; exact ⟨rE, bE⟩
end Go.Proofs.YtfmajangcbgooaaGreatDoor.Pr

