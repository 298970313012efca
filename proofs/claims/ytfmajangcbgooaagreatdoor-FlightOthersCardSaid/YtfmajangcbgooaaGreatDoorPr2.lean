import Derived.Test.YtfmajangcbgooaaGreatDoorPr0
import Derived.Test.YtfmajangcbgooaaGreatDoorK0
import Derived.Test.YtfmajangcbgooaaGreatDoorG0
import Derived.Test.YtfmajangcbgooaaGreatDoorG1
namespace Go.Proofs.YtfmajangcbgooaaGreatDoor.Pr
open Go.RowKit Go.Proofs.YtfmajangcbgooaaGreatDoorW.PrintWords Go.Proofs.YtfmajangcbgooaaGreatDoorW.PrintLast Go.Proofs.YtfmajangcbgooaaGreatDoorW.PrintMore
attribute [local go_sem] max2_int min2_int max_two min_two max_three min_three max_four min_four
set_option linter.unusedVariables false
set_option maxHeartbeats 64000000
set_option maxRecDepth 100000
set_option linter.unusedSimpArgs false
def lockkeeperlaw0_Low.f (b a : Int) : Option (Int) := if (IntKind.u64.wrap (a)) = 0 then (none) else (some (wrap64 (Int.tmod (IntKind.u64.wrap (b)) (IntKind.u64.wrap (a)))))
theorem lockkeeperlaw0_Low.calls (a b r : Int) (w : World) (h : lockkeeperlaw0_Low.f a b = some r) :
  Calls Tryz.prog 12 #[.int .i64 a, .int .i64 b] w fun e w' => e = .returned (.int .i64 r) ∧ Drawn0 w w' := by
 have H := h; clear h; unfold lockkeeperlaw0_Low.f at H; replace H := iteM_ H; obtain ⟨c, H⟩ := H; have d := beq_eq_false_iff_ne.mpr c; have g := bne_iff_ne.mpr c; obtain rfl := si_ H; go_enter Tryz.func12, Tryz.ntmps12; go_wp2; go_ret; exact ⟨by first | rfl | (simp; done) | (simp [*]; done) | (simp [*]; generalize ByteArray.toList _ = l_; cases l_ <;> rfl), dE⟩
def lockkeeperlaw0_GreatHeaders.l0 : Nat → List (S28) → Int → Int → Option (Bool)
 | 0, _, _, _ => none
 | k + 1, b, c, a => if a < (b.length : Int) then (if 0 ≤ a then (if (((rd_T28 b a).f0).size : Int) > 100 then (some true) else (if (((rd_T28 b a).f1).size : Int) > 5000 then (some true) else (lockkeeperlaw0_GreatHeaders.l0 k b (wrap64 (c + (((rd_T28 b a).f1).size : Int))) (wrap64 (a + 1))))) else (none)) else (some (decide (c > 12000)))
def lockkeeperlaw0_GreatHeaders.f (k : Nat) (l0 : List (S28)) : Option (Bool) := if (l0.length : Int) > 40 then (some true) else (lockkeeperlaw0_GreatHeaders.l0 k l0 0 0)
theorem lockkeeperlaw0_GreatHeaders.mono_l : ∀ k, (∀ a b c, LeO (lockkeeperlaw0_GreatHeaders.l0 k a b c) (lockkeeperlaw0_GreatHeaders.l0 (k + 1) a b c))
 | 0 => fun _ _ _ r h => by simp [lockkeeperlaw0_GreatHeaders.l0] at h
 | k + 1 => by
  have ih0 := lockkeeperlaw0_GreatHeaders.mono_l k
  ·intros
   unfold lockkeeperlaw0_GreatHeaders.l0
   exact moE
theorem lockkeeperlaw0_GreatHeaders.mono : ∀ a k, LeO (lockkeeperlaw0_GreatHeaders.f k a) (lockkeeperlaw0_GreatHeaders.f (k + 1) a) := by
 intro a k
 have ih0 := lockkeeperlaw0_GreatHeaders.mono_l k
 unfold lockkeeperlaw0_GreatHeaders.f
 exact moE
theorem lockkeeperlaw0_GreatHeaders.calls (k : Nat) (A0 : Option Addr) (c0 : Nat) (l0 : List (S28)) (r : Bool) (w : World) (x : Kd.C k28 w A0 l0.length l0) (y : l0.length ≤ c0) (h : lockkeeperlaw0_GreatHeaders.f k l0 = some r) :
  Calls Tryz.prog 33 #[.slice A0 l0.length c0] w fun e w' => e = .returned (.bool r) ∧ Drawn0 w w' := by
 have c := Aside0.mk x; have HC1 := Aside0.mk y; clear x y; have H := h; clear h; unfold lockkeeperlaw0_GreatHeaders.f at H; revert H; refine itePP_ (fun v H => ?g1p) (fun v H => ?g1n)
 case' g1p =>
  have i : decide (40 < (l0.length : Int)) = true := decide_eq_true v; have j : decide (40 < l0.length) = true := decide_eq_true (by omega); clear v; obtain rfl := si_ H; have z := trivial
 case' g1n =>
  have i : decide (40 < (l0.length : Int)) = false := decide_eq_false v; have j : decide (40 < l0.length) = false := decide_eq_false (by omega); clear v; have H' := Aside0.mk H; clear H; have A := trivial
 all_goals
  go_enter Tryz.func33, Tryz.ntmps33; go_wp2
  first
  | clear z
    go_ret; exact ⟨by first | rfl | (simp; done) | (simp [*]; done) | (simp [*]; generalize ByteArray.toList _ = l_; cases l_ <;> rfl), dE⟩
  | clear A
    go_loopg [3, 4] k (fun kq B D w' => ∃ (b : Int) (a : Int), B = .int .i64 b ∧ D = .int .i64 a ∧ Aside0 (lockkeeperlaw0_GreatHeaders.l0 kq l0 b a = some r) ∧ Aside0 (kq ≤ k) ∧ Drawn0 w w')
    case atStart => exact ⟨(0), (0), rS, rS, H', ⟨Nat.le_refl _⟩, dE⟩
    case round =>
     clear H'; (try clear v); (try clear i); (try clear j); obtain ⟨b, a, rfl, rfl, HA, E, ⟨m1, rfl⟩⟩ := hrel
     cases gk with
     | zero => exact absurd HA.out (by simp [lockkeeperlaw0_GreatHeaders.l0])
     | succ k1 =>
      have H := HA.out; clear HA
      simp only [lockkeeperlaw0_GreatHeaders.l0] at H
      revert H; refine iteDD_ (fun G H => ?g3p) (fun G H => ?g3n)
      case' g3p =>
       revert H; refine iteND_ fun c4b0 => itePP_ (fun I H => ?g4p) (fun I H => ?g4n)
       case' g4p =>
        have J : decide (100 < (((rd_T28 l0 a).f0).size : Int)) = true := decide_eq_true I; have K : decide (100 < ((rd_T28 l0 a).f0).size) = true := decide_eq_true (by omega); clear I; obtain rfl := si_ H; have X : 0 ≤ (a : Int) := of_decide_eq_true mE; have Y : a < (l0.length : Int) := of_decide_eq_true mE; obtain ⟨ad6, L, Z, a0⟩ := at_T28 c.out a X Y
        cases L
        replace X := eq_true X; replace Y := eq_true Y; have d := trivial
       case' g4n =>
        have J : decide (100 < (((rd_T28 l0 a).f0).size : Int)) = false := decide_eq_false I; have K : decide (100 < ((rd_T28 l0 a).f0).size) = false := decide_eq_false (by omega); clear I; revert H; refine itePP_ (fun M H => ?g5p) (fun M H => ?g5n)
        case' g5p =>
         have O : decide (5000 < (((rd_T28 l0 a).f1).size : Int)) = true := decide_eq_true M; have U : decide (5000 < ((rd_T28 l0 a).f1).size) = true := decide_eq_true (by omega); clear M; obtain rfl := si_ H; have l : 0 ≤ (a : Int) := of_decide_eq_true mE; have m : a < (l0.length : Int) := of_decide_eq_true mE; obtain ⟨g, L, n, o⟩ := at_T28 c.out a l m
         cases L
         replace l := eq_true l; replace m := eq_true m; have p : 0 ≤ (a : Int) := of_decide_eq_true mE; have q : a < (l0.length : Int) := of_decide_eq_true mE; obtain ⟨s, e2, t, u⟩ := at_T28 c.out a p q; obtain rfl : g = s := (by injection e2); replace p := eq_true p; replace q := eq_true q; have d := trivial
        case' g5n =>
         have O : decide (5000 < (((rd_T28 l0 a).f1).size : Int)) = false := decide_eq_false M; have U : decide (5000 < ((rd_T28 l0 a).f1).size) = false := decide_eq_false (by omega); clear M; have H' := Aside0.mk H; clear H; have l : 0 ≤ (a : Int) := of_decide_eq_true mE; have m : a < (l0.length : Int) := of_decide_eq_true mE; obtain ⟨g, L, n, o⟩ := at_T28 c.out a l m
         cases L
         replace l := eq_true l; replace m := eq_true m; have p : 0 ≤ (a : Int) := of_decide_eq_true mE; have q : a < (l0.length : Int) := of_decide_eq_true mE; obtain ⟨s, e2, t, u⟩ := at_T28 c.out a p q; obtain rfl : g = s := (by injection e2); replace p := eq_true p; replace q := eq_true q; have p9 : 0 ≤ (a : Int) := of_decide_eq_true mE; have q9 : a < (l0.length : Int) := of_decide_eq_true mE; obtain ⟨ad9, e3, hx9_0, hx9_1⟩ := at_T28 c.out a p9 q9; obtain rfl : g = ad9 := (by injection e3); replace p9 := eq_true p9; replace q9 := eq_true q9; have W := trivial
      case' g3n =>
       obtain rfl := si_ H; have d := trivial
      all_goals
       go_wp2
       first
       | clear d
         go_ret; exact ⟨by first | rfl | (simp; done) | (simp [*]; done) | (simp [*]; generalize ByteArray.toList _ = l_; cases l_ <;> rfl), dE⟩
       | clear W
         go_roundg k1
         case measure => have := E.out; omega
         case rel => exact ⟨(wrap64 (b + (((rd_T28 l0 a).f1).size : Int))), (wrap64 (a + 1)), rS, rS, H', ⟨by have := E.out; omega⟩, dE⟩
def lockkeeperlaw0_GreatReq.f (k : Nat) (a b c : ByteArray) (g : Int) (i : Bool) (d : List (S28)) (j l m n : Int) : Option (Bool) := if (a.size : Int) > 60 then (some true) else (if (b.size : Int) > 700 then (some true) else (if (c.size : Int) > 700 then (some true) else ((lockkeeperlaw0_GreatHeaders.f k d).bind fun e => (some e))))
theorem lockkeeperlaw0_GreatReq.mono : ∀ a b c d e g i j l m k, LeO (lockkeeperlaw0_GreatReq.f k a b c d e g i j l m) (lockkeeperlaw0_GreatReq.f (k + 1) a b c d e g i j l m) := by
 intro a b c d e g i j l m k
 have n := @lockkeeperlaw0_GreatHeaders.mono; unfold lockkeeperlaw0_GreatReq.f
 exact moE
theorem lockkeeperlaw0_GreatReq.calls (k : Nat) (a b c : ByteArray) (g : Int) (i : Bool) (j : Option Addr) (l : Nat) (d : List (S28)) (m n o p : Int) (r : Bool) (w : World) (q : Kd.C k28 w j d.length d) (s : d.length ≤ l) (h : lockkeeperlaw0_GreatReq.f k a b c g i d m n o p = some r) :
  Calls Tryz.prog 17 #[.agg #[.string a, .string b, .string c, .int .i64 g, .bool i, .slice j d.length l, .int .i64 m, .int .u64 n, .int .i64 o, .int .i64 p]] w fun e w' => e = .returned (.bool r) ∧ Below w.heap.size w w' := by
 have ae := Tryz.underlying26; have ab := Aside0.mk q; have u := Aside0.mk s; clear q s; have HB := Aside0.mk (Below.refl w.heap.size w); have H := h; clear h; unfold lockkeeperlaw0_GreatReq.f at H; revert H; refine itePP_ (fun y H => ?g1p) (fun y H => ?g1n)
 case' g1p =>
  have z : decide (60 < (a.size : Int)) = true := decide_eq_true y; have A : decide (60 < a.size) = true := decide_eq_true (by omega); clear y; obtain rfl := si_ H
 case' g1n =>
  have z : decide (60 < (a.size : Int)) = false := decide_eq_false y; have A : decide (60 < a.size) = false := decide_eq_false (by omega); clear y; revert H; refine itePP_ (fun B H => ?g2p) (fun B H => ?g2n)
  case' g2p =>
   have D : decide (700 < (b.size : Int)) = true := decide_eq_true B; have E : decide (700 < b.size) = true := decide_eq_true (by omega); clear B; obtain rfl := si_ H
  case' g2n =>
   have D : decide (700 < (b.size : Int)) = false := decide_eq_false B; have E : decide (700 < b.size) = false := decide_eq_false (by omega); clear B; revert H; refine itePP_ (fun G H => ?g3p) (fun G H => ?g3n)
   case' g3p =>
    have I : decide (700 < (c.size : Int)) = true := decide_eq_true G; have J : decide (700 < c.size) = true := decide_eq_true (by omega); clear G; obtain rfl := si_ H
   case' g3n =>
    have I : decide (700 < (c.size : Int)) = false := decide_eq_false G; have J : decide (700 < c.size) = false := decide_eq_false (by omega); clear G; replace H := bd_ H; obtain ⟨t1, A5, H⟩ := H; obtain rfl := si_ H
 all_goals
  go_enter Tryz.func17, Tryz.ntmps17; go_wp2_with (first | ((with_reducible refine gate_dst (N := 1) rfl ?_); (try (refine gate_guard (by rfl) ?_; dsimp only)); refine bxE (N := 1) (cs := #[.string a, .string b, .string c, .int .i64 g, .bool i, .slice j d.length l, .int .i64 m, .int .u64 n, .int .i64 o, .int .i64 p]) (t := 26) fun ac hg af hbox hb => ?_; obtain ⟨HB', v, x⟩ := bx_ bE hg hbox hb; have ad := x; clear HB hb hbox hg; have HB := HB'; clear HB'; obtain ⟨a1, a2, a3, a4, a5, a6, a7, a8, a9, aa, K, L, M, O, U, W, X, Y, Z, a0⟩ := bk10_ v) | (go_at_call 33; (with_reducible refine (lockkeeperlaw0_GreatHeaders.calls k _ _ d t1 _ ?side1 ?side2 A5.out).mono ?_); (case side1 => exact cE); (case side2 => exact u.out); rintro e w' ⟨rfl, ⟨nd, rfl⟩⟩)); go_ret; exact ⟨rE, bE⟩
def octet_Fold.f (c d : ByteArray) : Option (Bool) := (octet_Lower.f c).bind fun a => ((octet_Lower.f d).bind fun b => (some (a.toList == b.toList)))
theorem octet_Fold.calls (a b : ByteArray) (r : Bool) (w : World) (h : octet_Fold.f a b = some r) :
  Calls Tryz.prog 70 #[.string a, .string b] w fun e w' => e = .returned (.bool r) ∧ Below w.heap.size w w' := by
 have HB := Aside0.mk (Below.refl w.heap.size w); have H := h; clear h; unfold octet_Fold.f at H; replace H := bd_ H; obtain ⟨g, i, H⟩ := H; replace H := bd_ H; obtain ⟨j, l, H⟩ := H; obtain rfl := si_ H; go_enter Tryz.func70, Tryz.ntmps70; go_wp2_with (first | ((with_reducible refine gate_callee (f := 95) rfl ?_); refine gL _ Tryz.func95 _ ((octet_Lower.calls a g _ i.out).mono ?_); rintro e c ⟨rfl, hb⟩; refine ⟨_, rfl, ?_⟩; replace HB := bS bE hb; (try clear hb)) | ((with_reducible refine gate_callee (f := 95) rfl ?_); refine gL _ Tryz.func95 _ ((octet_Lower.calls b j _ l.out).mono ?_); rintro e d ⟨rfl, hb⟩; refine ⟨_, rfl, ?_⟩; replace HB := bS bE hb; (try clear hb))); go_ret; exact ⟨rE, bE⟩
def lockkeeperlaw17_asked.l0 : Nat → ByteArray → Int → Option (Bool)
 | 0, _, _ => none
 | k + 1, d, a => if a < 5 then (if 0 ≤ a then (if 21 + (rdOf ByteArray.empty ([(⟨#[111, 114, 105, 103, 105, 110]⟩ : ByteArray), (⟨#[99, 114, 101, 100, 101, 110, 116, 105, 97, 108, 115]⟩ : ByteArray), (⟨#[109, 101, 116, 104, 111, 100, 115]⟩ : ByteArray), (⟨#[104, 101, 97, 100, 101, 114, 115]⟩ : ByteArray), (⟨#[]⟩ : ByteArray)] : List ByteArray) a).size ≤ 9223372036854775807 then ((octet_Fold.f d ((⟨#[97, 99, 99, 101, 115, 115, 45, 99, 111, 110, 116, 114, 111, 108, 45, 97, 108, 108, 111, 119, 45]⟩ : ByteArray) ++ (rdOf ByteArray.empty ([(⟨#[111, 114, 105, 103, 105, 110]⟩ : ByteArray), (⟨#[99, 114, 101, 100, 101, 110, 116, 105, 97, 108, 115]⟩ : ByteArray), (⟨#[109, 101, 116, 104, 111, 100, 115]⟩ : ByteArray), (⟨#[104, 101, 97, 100, 101, 114, 115]⟩ : ByteArray), (⟨#[]⟩ : ByteArray)] : List ByteArray) a))).bind fun b => (if b = true then (some true) else (lockkeeperlaw17_asked.l0 k d (wrap64 (a + 1))))) else (none)) else (none)) else ((octet_Fold.f d (⟨#[97, 99, 99, 101, 115, 115, 45, 99, 111, 110, 116, 114, 111, 108, 45, 109, 97, 120, 45, 97, 103, 101]⟩ : ByteArray)).bind fun c => (some c))
def lockkeeperlaw17_asked.f (k : Nat) (a0 : ByteArray) : Option (Bool) := lockkeeperlaw17_asked.l0 k a0 0
theorem lockkeeperlaw17_asked.mono_l : ∀ k, (∀ y0 y1, LeO (lockkeeperlaw17_asked.l0 k y0 y1) (lockkeeperlaw17_asked.l0 (k + 1) y0 y1))
 | 0 => fun _ _ r h => by simp [lockkeeperlaw17_asked.l0] at h
 | k + 1 => by
  have ih0 := lockkeeperlaw17_asked.mono_l k
  ·intros
   unfold lockkeeperlaw17_asked.l0
   exact moE
theorem lockkeeperlaw17_asked.mono : ∀ a0 k, LeO (lockkeeperlaw17_asked.f k a0) (lockkeeperlaw17_asked.f (k + 1) a0) := by
 intro a0 k
 have ih0 := lockkeeperlaw17_asked.mono_l k
 unfold lockkeeperlaw17_asked.f
 exact moE
theorem lockkeeperlaw17_asked.calls (k : Nat) (a0 : ByteArray) (r : Bool) (w : World) (h : lockkeeperlaw17_asked.f k a0 = some r) :
  Calls Tryz.prog 34 #[.string a0] w fun e w' => e = .returned (.bool r) ∧ Below w.heap.size w w' := by
 have HB := Aside0.mk (Below.refl w.heap.size w); have H : (lockkeeperlaw17_asked.l0 k a0 0) = some r := h; clear h; have H' := Aside0.mk H; clear H; go_enter Tryz.func34, Tryz.ntmps34; go_wp2
 go_loopg [6] k (fun kq c w' => ∃ (a : Int), c = .int .i64 a ∧ Aside0 (lockkeeperlaw17_asked.l0 kq a0 a = some r) ∧ Aside0 (kq ≤ k) ∧ Aside0 (Below w.heap.size w w'))
 case atStart => exact ⟨(0), rS, H', ⟨Nat.le_refl _⟩, ⟨bE⟩⟩
 case round =>
  clear H'; obtain ⟨a, rfl, HA, d, HB⟩ := hrel
  cases gk with
  | zero => exact absurd HA.out (by simp [lockkeeperlaw17_asked.l0])
  | succ k1 =>
   have H := HA.out; clear HA
   simp only [lockkeeperlaw17_asked.l0] at H
   revert H; refine iteDD_ (fun g H => ?g1p) (fun g H => ?g1n)
   case' g1p =>
    revert H; refine iteND_ fun n => iteNP_ fun j H => ?_; have o := eq_true j; have p := decide_eq_true j
    try have q : (9223372036854775807 < 21 + (rdOf ByteArray.empty ([(⟨#[111, 114, 105, 103, 105, 110]⟩ : ByteArray), (⟨#[99, 114, 101, 100, 101, 110, 116, 105, 97, 108, 115]⟩ : ByteArray), (⟨#[109, 101, 116, 104, 111, 100, 115]⟩ : ByteArray), (⟨#[104, 101, 97, 100, 101, 114, 115]⟩ : ByteArray), (⟨#[]⟩ : ByteArray)] : List ByteArray) a).size) = False := eq_false (Nat.not_lt.2 j)
    replace H := bd_ H; obtain ⟨y, s, H⟩ := H; revert H; refine iteB_ (fun l H => ?g2p) (fun l H => ?g2n)
    case' g2p =>
     subst l; obtain rfl := si_ H; have m := XA.arr_at (P := Tryz.prog) (t := 91) (e := 9) 5 ([(⟨#[111, 114, 105, 103, 105, 110]⟩ : ByteArray), (⟨#[99, 114, 101, 100, 101, 110, 116, 105, 97, 108, 115]⟩ : ByteArray), (⟨#[109, 101, 116, 104, 111, 100, 115]⟩ : ByteArray), (⟨#[104, 101, 97, 100, 101, 114, 115]⟩ : ByteArray), (⟨#[]⟩ : ByteArray)] : List ByteArray) Tryz.underlying91 Tryz.underlying9 (by kernel_rfl) rfl #[Value.string ⟨#[111, 114, 105, 103, 105, 110]⟩, Value.string ⟨#[99, 114, 101, 100, 101, 110, 116, 105, 97, 108, 115]⟩, Value.string ⟨#[109, 101, 116, 104, 111, 100, 115]⟩, Value.string ⟨#[104, 101, 97, 100, 101, 114, 115]⟩, Value.string ⟨#[]⟩] rfl (a : Int) (of_decide_eq_true mE) (of_decide_eq_true mE); have b := trivial
    case' g2n =>
     subst l; have H' := Aside0.mk H; clear H; have m := XA.arr_at (P := Tryz.prog) (t := 91) (e := 9) 5 ([(⟨#[111, 114, 105, 103, 105, 110]⟩ : ByteArray), (⟨#[99, 114, 101, 100, 101, 110, 116, 105, 97, 108, 115]⟩ : ByteArray), (⟨#[109, 101, 116, 104, 111, 100, 115]⟩ : ByteArray), (⟨#[104, 101, 97, 100, 101, 114, 115]⟩ : ByteArray), (⟨#[]⟩ : ByteArray)] : List ByteArray) Tryz.underlying91 Tryz.underlying9 (by kernel_rfl) rfl #[Value.string ⟨#[111, 114, 105, 103, 105, 110]⟩, Value.string ⟨#[99, 114, 101, 100, 101, 110, 116, 105, 97, 108, 115]⟩, Value.string ⟨#[109, 101, 116, 104, 111, 100, 115]⟩, Value.string ⟨#[104, 101, 97, 100, 101, 114, 115]⟩, Value.string ⟨#[]⟩] rfl (a : Int) (of_decide_eq_true mE) (of_decide_eq_true mE); have i := trivial
   case' g1n =>
    replace H := bd_ H; obtain ⟨y, z, H⟩ := H; obtain rfl := si_ H; have b := trivial
   all_goals
    go_wp2_with (first | ((with_reducible refine gate_callee (f := 70) rfl ?_); refine gL _ Tryz.func70 _ ((octet_Fold.calls a0 ((⟨#[97, 99, 99, 101, 115, 115, 45, 99, 111, 110, 116, 114, 111, 108, 45, 97, 108, 108, 111, 119, 45]⟩ : ByteArray) ++ (rdOf ByteArray.empty ([(⟨#[111, 114, 105, 103, 105, 110]⟩ : ByteArray), (⟨#[99, 114, 101, 100, 101, 110, 116, 105, 97, 108, 115]⟩ : ByteArray), (⟨#[109, 101, 116, 104, 111, 100, 115]⟩ : ByteArray), (⟨#[104, 101, 97, 100, 101, 114, 115]⟩ : ByteArray), (⟨#[]⟩ : ByteArray)] : List ByteArray) a)) true _ s.out).mono ?_); rintro e u ⟨rfl, hb⟩; refine ⟨_, rfl, ?_⟩; replace HB := bS bE hb; (try clear hb)) | ((with_reducible refine gate_callee (f := 70) rfl ?_); refine gL _ Tryz.func70 _ ((octet_Fold.calls a0 ((⟨#[97, 99, 99, 101, 115, 115, 45, 99, 111, 110, 116, 114, 111, 108, 45, 97, 108, 108, 111, 119, 45]⟩ : ByteArray) ++ (rdOf ByteArray.empty ([(⟨#[111, 114, 105, 103, 105, 110]⟩ : ByteArray), (⟨#[99, 114, 101, 100, 101, 110, 116, 105, 97, 108, 115]⟩ : ByteArray), (⟨#[109, 101, 116, 104, 111, 100, 115]⟩ : ByteArray), (⟨#[104, 101, 97, 100, 101, 114, 115]⟩ : ByteArray), (⟨#[]⟩ : ByteArray)] : List ByteArray) a)) false _ s.out).mono ?_); rintro e v ⟨rfl, hb⟩; refine ⟨_, rfl, ?_⟩; replace HB := bS bE hb; (try clear hb)) | ((with_reducible refine gate_callee (f := 70) rfl ?_); refine gL _ Tryz.func70 _ ((octet_Fold.calls a0 (⟨#[97, 99, 99, 101, 115, 115, 45, 99, 111, 110, 116, 114, 111, 108, 45, 109, 97, 120, 45, 97, 103, 101]⟩ : ByteArray) _ _ z.out).mono ?_); rintro e x ⟨rfl, hb⟩; refine ⟨_, rfl, ?_⟩; replace HB := bS bE hb; (try clear hb)))
    first
    | clear b
      go_ret; exact ⟨rE, bE⟩
    | clear i
      go_roundg k1
      case measure => have := d.out; omega
      case rel => exact ⟨(wrap64 (a + 1)), rS, H', ⟨by have := d.out; omega⟩, ⟨bE⟩⟩
def origin_Default.f (a : ByteArray) : Option (Int) := if a.toList = ([104, 116, 116, 112] : List UInt8) then (some 80) else (if a.toList = ([104, 116, 116, 112, 115] : List UInt8) then (some 443) else (some 0))
theorem origin_Default.calls (g : ByteArray) (r : Int) (w : World) (h : origin_Default.f g = some r) :
  Calls Tryz.prog 96 #[.string g] w fun e w' => e = .returned (.int .i64 r) ∧ Drawn0 w w' := by
 have H := h; clear h; unfold origin_Default.f at H; revert H; refine iteEF_ (fun a b H => ?g1p) (fun i a b H => ?g1n)
 case' g1p =>
  obtain rfl := si_ H
 case' g1n =>
  revert H; refine iteEF_ (fun c d H => ?g2p) (fun j c d H => ?g2n)
  case' g2p =>
   obtain rfl := si_ H
  case' g2n =>
   obtain rfl := si_ H
 all_goals
  go_enter Tryz.func96, Tryz.ntmps96; go_wp2; go_ret; exact ⟨by first | rfl | (simp; done) | (simp [*]; done) | (simp [*]; generalize ByteArray.toList _ = l_; cases l_ <;> rfl), dE⟩
def octet_digit.f (a : Int) : Option (Bool) := if a ≥ 48 then (some (decide (a ≤ 57))) else (some false)
theorem octet_digit.calls (b : Int) (r : Bool) (w : World) (h : octet_digit.f b = some r) :
  Calls Tryz.prog 170 #[.int .u8 b] w fun e w' => e = .returned (.bool r) ∧ Drawn0 w w' := by
 have H := h; clear h; unfold octet_digit.f at H; revert H; refine iteJJ_ (fun a H => ?g1p) (fun a H => ?g1n)
 case' g1p =>
  obtain rfl := si_ H
 case' g1n =>
  obtain rfl := si_ H
 all_goals
  go_enter Tryz.func170, Tryz.ntmps170; go_wp2; go_ret; exact ⟨by first | rfl | (simp; done) | (simp [*]; done) | (simp [*]; generalize ByteArray.toList _ = l_; cases l_ <;> rfl), dE⟩
def octet_Digits.l0 : Nat → ByteArray → Int → Int → Int → Option (Int × Bool)
 | 0, _, _, _, _ => none
 | k + 1, b, d, e, a => if a < e then (if 0 ≤ a then (if a < (b.size : Int) then ((octet_digit.f (bt b a)).bind fun c => (if c = true then (if d > ((18446744073709551615 - (((bt b a) - 48) % 256)) / 10) then (octet_Digits.l0 k b 18446744073709551615 e (wrap64 (a + 1))) else (octet_Digits.l0 k b (IntKind.u64.wrap ((IntKind.u64.wrap (d * 10)) + (((bt b a) - 48) % 256))) e (wrap64 (a + 1)))) else (some (0, false)))) else (none)) else (none)) else (some (d, (b.toList != ([] : List UInt8))))
def octet_Digits.f (k : Nat) (a : ByteArray) : Option (Int × Bool) := octet_Digits.l0 k a 0 (a.size : Int) 0
theorem octet_Digits.mono_l : ∀ k, (∀ a b c d, LeO (octet_Digits.l0 k a b c d) (octet_Digits.l0 (k + 1) a b c d))
 | 0 => fun _ _ _ _ r h => by simp [octet_Digits.l0] at h
 | k + 1 => by
  have ih0 := octet_Digits.mono_l k
  ·intros
   unfold octet_Digits.l0
   exact moE
theorem octet_Digits.mono : ∀ a k, LeO (octet_Digits.f k a) (octet_Digits.f (k + 1) a) := by
 intro a k
 have ih0 := octet_Digits.mono_l k
 unfold octet_Digits.f
 exact moE
theorem octet_Digits.calls (k : Nat) (b : ByteArray) (t : Int) (u : Bool) (w : World) (h : octet_Digits.f k b = some (t, u)) :
  Calls Tryz.prog 129 #[.string b] w fun e w' => e = .returned (.tuple #[.int .u64 t, .bool u]) ∧ Drawn0 w w' := by
 have H : (octet_Digits.l0 k b 0 (b.size : Int) 0) = some (t, u) := h; clear h; have H' := Aside0.mk H; clear H; go_enter Tryz.func129, Tryz.ntmps129; go_wp2
 go_loopg [4, 9] k (fun kq m n w' => ∃ (c : Int) (a : Int), m = .int .u64 c ∧ n = .int .i64 a ∧ Aside0 (octet_Digits.l0 kq b c (b.size : Int) a = some (t, u)) ∧ Aside0 (kq ≤ k) ∧ Drawn0 w w')
 case atStart => exact ⟨(0), (0), rS, rS, H', ⟨Nat.le_refl _⟩, dE⟩
 case round =>
  clear H'; obtain ⟨c, a, rfl, rfl, HA, l, ⟨J, rfl⟩⟩ := hrel
  cases gk with
  | zero => exact absurd HA.out (by simp [octet_Digits.l0])
  | succ k1 =>
   have H := HA.out; clear HA
   simp only [octet_Digits.l0] at H
   revert H; refine iteDD_ (fun o H => ?g1p) (fun o H => ?g1n)
   case' g1p =>
    revert H; refine iteND_ fun A => iteND_ fun B H => ?_; replace H := bd_ H; obtain ⟨K, D, H⟩ := H; revert H; refine iteB_ (fun v H => ?g2p) (fun v H => ?g2n)
    case' g2p =>
     subst v; revert H; refine iteGG_ (fun p H => ?g3p) (fun p H => ?g3n)
     case' g3p =>
      have H' := Aside0.mk H; clear H; obtain ⟨E, G, y⟩ := btf_ (s := b) (x := a) mE mE; have G4 := trivial; have d := trivial; have q := trivial
     case' g3n =>
      have H' := Aside0.mk H; clear H; obtain ⟨E, G, y⟩ := btf_ (s := b) (x := a) mE mE; have G4 := trivial; have d := trivial; have r := trivial
    case' g2n =>
     subst v
     simp only [Option.some.injEq, Prod.mk.injEq] at H
     obtain ⟨rfl, rfl⟩ := H; obtain ⟨L, M, I⟩ := btf_ (s := b) (x := a) mE mE; have G5 := trivial; have g := trivial
   case' g1n =>
    simp only [Option.some.injEq, Prod.mk.injEq] at H
    obtain ⟨rfl, rfl⟩ := H; have g := trivial
   all_goals
    go_wp2_with (first | (have z_ := G4; clear z_; ((with_reducible refine gate_callee (f := 170) rfl ?_); refine gL _ Tryz.func170 _ ((octet_digit.calls (bt b a) _ _ D.out).mono ?_); rintro e w' ⟨rfl, ⟨nd, rfl⟩⟩; refine ⟨_, rfl, ?_⟩; have i : 0 ≤ (a : Int) := of_decide_eq_true mE; have j : a < (b.size : Int) := of_decide_eq_true mE; have z := bt_at b a; replace i := eq_true i; replace j := eq_true j)) | (have z_ := G5; clear z_; ((with_reducible refine gate_callee (f := 170) rfl ?_); refine gL _ Tryz.func170 _ ((octet_digit.calls (bt b a) _ _ D.out).mono ?_); rintro e w' ⟨rfl, ⟨nd, rfl⟩⟩; refine ⟨_, rfl, ?_⟩)))
    first
    | clear d
      go_roundg k1
      case measure => have := l.out; omega
      first
      | clear q
        case rel => exact ⟨(18446744073709551615), (wrap64 (a + 1)), rS, rS, H', ⟨by have := l.out; omega⟩, dE⟩
      | clear r
        case rel => exact ⟨(IntKind.u64.wrap ((IntKind.u64.wrap (c * 10)) + (((bt b a) - 48) % 256))), (wrap64 (a + 1)), rS, rS, H', ⟨by have := l.out; omega⟩, dE⟩
    | clear g
      go_ret2; exact ⟨by first | rfl | (simp; done) | (simp [*]; done) | (simp [*]; generalize ByteArray.toList _ = l_; cases l_ <;> rfl), dE⟩
def origin_port.f (k : Nat) (b : ByteArray) : Option (Int) := (octet_Digits.f k b).bind fun a => (if a.2 = true then (if (b.size : Int) > 5 then (some 0) else (if 0 < (b.size : Int) then (if (bt b 0) = 48 then (some 0) else (if a.1 > 65535 then (some 0) else (some (wrap64 (a.1))))) else (none))) else (some 0))
theorem origin_port.mono : ∀ a k, LeO (origin_port.f k a) (origin_port.f (k + 1) a) := by
 intro a k
 have b := @octet_Digits.mono; unfold origin_port.f
 exact moE
theorem origin_port.calls (k : Nat) (a : ByteArray) (r : Int) (w : World) (h : origin_port.f k a = some r) :
  Calls Tryz.prog 97 #[.string a] w fun e w' => e = .returned (.int .i64 r) ∧ Below w.heap.size w w' := by
 have HB := Aside0.mk (Below.refl w.heap.size w); have H := h; clear h; unfold origin_port.f at H; replace H := bd_ H; obtain ⟨⟨n, x⟩, s, H⟩ := H; replace H : (if x = true then (if (a.size : Int) > 5 then (some 0) else (if 0 < (a.size : Int) then (if (bt a 0) = 48 then (some 0) else (if n > 65535 then (some 0) else (some (wrap64 (n))))) else (none))) else (some 0)) = some r := H; revert H; refine iteB_ (fun o H => ?g1p) (fun o H => ?g1n)
 case' g1p =>
  subst o; revert H; refine itePP_ (fun c H => ?g2p) (fun c H => ?g2n)
  case' g2p =>
   have d : decide (5 < (a.size : Int)) = true := decide_eq_true c; have g : decide (5 < a.size) = true := decide_eq_true (by omega); clear c; obtain rfl := si_ H; have G6 := trivial
  case' g2n =>
   have d : decide (5 < (a.size : Int)) = false := decide_eq_false c; have g : decide (5 < a.size) = false := decide_eq_false (by omega); clear c; revert H; refine iteNP_ fun t H => ?_; have u := decide_eq_true t; have v : decide (0 < a.size) = true := decide_eq_true (by omega); clear t; revert H; refine iteEF_ (fun i j H => ?g3p) (fun y i j H => ?g3n)
   case' g3p =>
    obtain rfl := si_ H; have G5 := trivial
   case' g3n =>
    revert H; refine iteGG_ (fun l H => ?g4p) (fun l H => ?g4n)
    case' g4p =>
     obtain rfl := si_ H; have G5 := trivial
    case' g4n =>
     obtain rfl := si_ H; have G5 := trivial
 case' g1n =>
  subst o; obtain rfl := si_ H; have G6 := trivial
 all_goals
  go_enter Tryz.func97, Tryz.ntmps97; go_wp2_with (first | (have z_ := G5; clear z_; ((with_reducible refine gate_callee (f := 129) rfl ?_); refine gL _ Tryz.func129 _ ((octet_Digits.calls k a n _ _ s.out).mono ?_); rintro e w' ⟨rfl, ⟨nd, rfl⟩⟩; refine ⟨_, rfl, ?_⟩; have m : 0 ≤ (0 : Int) := (by omega); have b : 0 < a.size := (by have : (0 : Int) < (a.size : Int) := of_decide_eq_true mE; omega); have p : ∀ h : 0 < a.size, ((a[0]'h).toNat : Int) = bt a 0 := bt_at a 0; clear m; have q : (0 < (a.size : Int)) = True := eq_true (of_decide_eq_true mE); replace b := eq_true b)) | (have z_ := G6; clear z_; ((with_reducible refine gate_callee (f := 129) rfl ?_); refine gL _ Tryz.func129 _ ((octet_Digits.calls k a n _ _ s.out).mono ?_); rintro e w' ⟨rfl, ⟨nd, rfl⟩⟩; refine ⟨_, rfl, ?_⟩))); go_ret; exact ⟨rE, bE⟩
end Go.Proofs.YtfmajangcbgooaaGreatDoor.Pr
