import Derived.Test.YtfmajangcbgooaaGreatDoorPr0
import Derived.Test.YtfmajangcbgooaaGreatDoorK0
import Derived.Test.YtfmajangcbgooaaGreatDoorPr5
import Derived.Test.YtfmajangcbgooaaGreatDoorG5
import Derived.Test.YtfmajangcbgooaaGreatDoorPr4
import Derived.Test.YtfmajangcbgooaaGreatDoorPr9
namespace Go.Proofs.YtfmajangcbgooaaGreatDoor.Pr
open Go.RowKit Go.Proofs.YtfmajangcbgooaaGreatDoorW.PrintWords Go.Proofs.YtfmajangcbgooaaGreatDoorW.PrintLast Go.Proofs.YtfmajangcbgooaaGreatDoorW.PrintMore
attribute [local go_sem] max2_int min2_int max_two min_two max_three min_three max_four min_four
set_option linter.unusedVariables false
set_option linter.unusedSimpArgs false
theorem eqA28 (d : Nat) (w : World) (a b : ByteArray) (c e : ByteArray) :
  (Op.equalIn (d + 2) 28 (.agg #[.string a, .string c]) (.agg #[.string b, .string e])).run Tryz.prog w = .ok (a.toList == b.toList && (c.toList == e.toList)) w := by
 refine eqA_of Tryz.underlying28 (by kernel_rfl) ?_
 refine eqf_cons (by rfl) (by go_simp; rfl) (by go_simp; rfl) (by go_simp) ?_
 exact eqf_last (by rfl) (by go_simp; rfl) (by go_simp; rfl) (by go_simp)
theorem eqA70 (d : Nat) (w : World) (a b : ByteArray) (c e : ByteArray) (g i : Int) :
  (Op.equalIn (d + 2) 70 (.agg #[.string a, .string c, .int .i64 g]) (.agg #[.string b, .string e, .int .i64 i])).run Tryz.prog w = .ok (a.toList == b.toList && (c.toList == e.toList && (g == i))) w := by
 refine eqA_of Tryz.underlying70 (by kernel_rfl) ?_
 refine eqf_cons (by rfl) (by go_simp; rfl) (by go_simp; rfl) (by go_simp) ?_
 refine eqf_cons (by rfl) (by go_simp; rfl) (by go_simp; rfl) (by go_simp) ?_
 exact eqf_last (by rfl) (by go_simp; rfl) (by go_simp; rfl) (by go_simp)
set_option maxHeartbeats 64000000
set_option maxRecDepth 100000
def target_show.f (k : Nat) (d e : ByteArray) (g : Int) (a c : ByteArray) : Option (ByteArray) := (origin_Show.f k d e g).bind fun b => (if b.size + a.size ≤ 9223372036854775807 then (if (b ++ a).size + c.size ≤ 9223372036854775807 then (some ((b ++ a) ++ c)) else (none)) else (none))
theorem target_show.mono : ∀ a b c d e k, LeO (target_show.f k a b c d e) (target_show.f (k + 1) a b c d e) := by
 intro a b c d e k
 have g := @origin_Show.mono; unfold target_show.f
 exact moE
def target_show.T1 : Bool × List (List Nat × List Nat) := (true, [([], []), ([0], [0]), ([1], [1]), ([], []), ([3], [3]), ([2, 4], [2, 4]), ([], []), ([6], [6]), ([5, 7], [5, 7]), ([8, 2, 0, 1, 2, 3, 4, 5, 6, 7, 8], [8])])
def target_show.B1 : List Nat := [0, 1, 3, 0, 8, 31, 0, 64, 255, 511]
theorem target_show.tab1 : rtab .any (opsOf Tryz.f94 1) = target_show.T1 := by kernel_rfl
theorem target_show.bits1 : waitsOk target_show.T1.2 target_show.B1 = true := by kernel_rfl
theorem target_show.calls (k : Nat) (d g : ByteArray) (i : Int) (b j r : ByteArray) (w : World) (hM_ : Aside0 (LaidW w)) (h : target_show.f k d g i b j = some r) :
  Calls Tryz.prog 94 #[.agg #[.string d, .string g, .int .i64 i, .string b, .string j]] w fun e w' => e = .returned (.string r) ∧ Below w.heap.size w w' := by
 have x := Tryz.underlying72; have y := Tryz.underlying70; have HB := Aside0.mk (Below.refl w.heap.size w); have H := h; clear h; unfold target_show.f at H; replace H := bd_ H; obtain ⟨q, J, H⟩ := H; revert H; refine iteNP_ fun c2 H => ?_; have z := eq_true c2; have A := decide_eq_true c2
 try have B : (9223372036854775807 < q.size + b.size) = False := eq_false (Nat.not_lt.2 c2)
 revert H; refine iteNP_ fun m H => ?_
 try (have o := m; simp only [ByteArray.size_append, Int.natCast_add] at o)
 have D := eq_true m; have E := decide_eq_true m
 try have G : (9223372036854775807 < (q ++ b).size + j.size) = False := eq_false (Nat.not_lt.2 m)
 try have I : (9223372036854775807 < q.size + b.size + j.size) = False := eq_false (Nat.not_lt.2 (by have z_ := m; simp only [ByteArray.size_append] at z_; first | exact z_ | simpa using z_))
 obtain rfl := si_ H; go_enter Tryz.func94, Tryz.ntmps94
 try go_wp2_with (first | ((with_reducible refine gate_dst (N := 1) rfl ?_); refine bxE (N := 1) (cs := #[.string d, .string g, .int .i64 i, .string b, .string j]) (t := 72) fun c hg p hbox hb => ?_; obtain ⟨HB', a, l⟩ := bx_ bE hg hbox hb; have s := l; clear HB hb hbox hg; have HB := HB'; clear HB'))
 have n0_ := Aside0.mk (blk_drew a.out); have n1_ := Aside0.mk (below_drew1 HB.out); clear a; clear HB; have a := n0_; have HB := n1_; clear n0_ n1_; refine start_ (n := 10) (S := fun w' => w'.cell? ⟨c, 0, none⟩ = some (.string d) ∧ w'.cell? ⟨c, 1, none⟩ = some (.string g) ∧ w'.cell? ⟨c, 2, none⟩ = some (.int .i64 i) ∧ w'.cell? ⟨c, 3, none⟩ = some (.string b) ∧ w'.cell? ⟨c, 4, none⟩ = some (.string j)) (ds := []) (bz 10 0) (by kernel_rfl) rfl rfl (bkc5_ a) (fun hHeld => ?_); refine with_tabW target_show.tab1 target_show.bits1 (fun HT_ HW_ => ?_); generalize p.drew = u at a HB hHeld ⊢; refine qA 0 3 10 1 ?_; refine qA 3 6 10 9 ?_; refine qA 6 9 10 73 ?_; refine tA5 1 4 10 75 ?_; refine tA5 4 7 10 91 ?_; refine tA5 7 10 10 219 ?_; refine oB 2 5 10 223 fun K hK => ?_; refine gS Tryz.func59 #[.agg #[.string d, .string g, .int .i64 i]] ?_
 with_reducible refine (origin_Show.calls k d g i q _ ?side1 J.out).mono ?_
 (case side1 => exact ⟨lE⟩); rintro e v ⟨rfl, hb⟩; refine ⟨_, rfl, ?_⟩; replace a := kM a hb; replace HB := bS bE hb; (try clear hb); refine hK.out _ _ (bkc5_ a) (fun hHeld => ?_); clear hK K; refine nA 5 ?_; refine qA 5 8 10 255 ?_; refine qA 8 11 10 511 ?_; refine qA 9 2 10 1023 ?_; refine done_ (done_of HT_.out (by kernel_rfl)) ?_
 try go_wp2
 go_ret; exact ⟨rE, bE⟩
set_option maxHeartbeats 64000000
set_option maxRecDepth 100000
attribute [local go_sem high] eqA28
def lockkeeperlaw0_GreatHeaders.l0 : Nat → List (S28) → Int → Int → Option (Bool)
 | 0, _, _, _ => none
 | k + 1, b, c, a => if a < (b.length : Int) then (if 0 ≤ a then (if (((rd_T28 b a).f0).size : Int) > 100 then (some true) else (if (((rd_T28 b a).f1).size : Int) > 5000 then (some true) else (lockkeeperlaw0_GreatHeaders.l0 k b (wrap64 (c + (((rd_T28 b a).f1).size : Int))) (wrap64 (a + 1))))) else (none)) else (some (decide (c > 12000)))
def lockkeeperlaw0_GreatHeaders.f (k : Nat) (l0 : List (S28)) : Option (Bool) := if (l0.length : Int) > 40 then (some true) else (lockkeeperlaw0_GreatHeaders.l0 k l0 0 0)
theorem lockkeeperlaw0_GreatHeaders.mono_l : ∀ k, (∀ a b c, LeO (lockkeeperlaw0_GreatHeaders.l0 k a b c) (lockkeeperlaw0_GreatHeaders.l0 (k + 1) a b c))
 | 0 => fun _ _ _ r h => by simp [lockkeeperlaw0_GreatHeaders.l0] at h
 | k + 1 => by
  have ih0 := lockkeeperlaw0_GreatHeaders.mono_l k
  ·intros
   unfold lockkeeperlaw0_GreatHeaders.l0
   exact moE
theorem lockkeeperlaw0_GreatHeaders.mono : ∀ a k, LeO (lockkeeperlaw0_GreatHeaders.f k a) (lockkeeperlaw0_GreatHeaders.f (k + 1) a) := by
 intro a k
 have ih0 := lockkeeperlaw0_GreatHeaders.mono_l k
 unfold lockkeeperlaw0_GreatHeaders.f
 exact moE
theorem lockkeeperlaw0_GreatHeaders.calls (k : Nat) (A0 : Option Addr) (c0 : Nat) (l0 : List (S28)) (r : Bool) (w : World) (v : Kd.C k28 w A0 l0.length l0) (x : l0.length ≤ c0) (h : lockkeeperlaw0_GreatHeaders.f k l0 = some r) :
  Calls Tryz.prog 33 #[.slice A0 l0.length c0] w fun e w' => e = .returned (.bool r) ∧ Drawn0 w w' := by
 have c := Aside0.mk v; have HC1 := Aside0.mk x; clear v x; have H := h; clear h; unfold lockkeeperlaw0_GreatHeaders.f at H; revert H; refine itePP_ (fun c2 H => ?g1p) (fun c2 H => ?g1n)
 case' g1p =>
  have i : decide (40 < (l0.length : Int)) = true := decide_eq_true c2; have j : decide (40 < l0.length) = true := decide_eq_true (by omega); clear c2; obtain rfl := si_ H; have y := trivial
 case' g1n =>
  have i : decide (40 < (l0.length : Int)) = false := decide_eq_false c2; have j : decide (40 < l0.length) = false := decide_eq_false (by omega); clear c2; have H' := Aside0.mk H; clear H; have z := trivial
 all_goals
  go_enter Tryz.func33, Tryz.ntmps33; go_wp2
  first
  | clear y
    go_ret; exact ⟨rS, dE⟩
  | clear z
    go_loopg [3, 4] k (fun kq A B w' => ∃ (b : Int) (a : Int), A = .int .i64 b ∧ B = .int .i64 a ∧ Aside0 (lockkeeperlaw0_GreatHeaders.l0 kq l0 b a = some r) ∧ Aside0 (kq ≤ k) ∧ Drawn0 w w')
    case atStart => exact ⟨(0), (0), rS, rS, H', ⟨Nat.le_refl _⟩, dE⟩
    case round =>
     clear H'; (try clear c2); (try clear i); (try clear j); obtain ⟨b, a, rfl, rfl, HA, D, ⟨m1, rfl⟩⟩ := hrel
     cases gk with
     | zero => exact absurd HA.out (by simp [lockkeeperlaw0_GreatHeaders.l0])
     | succ k1 =>
      have H := HA.out; clear HA
      simp only [lockkeeperlaw0_GreatHeaders.l0] at H
      revert H; refine iteDD_ (fun E H => ?g3p) (fun E H => ?g3n)
      case' g3p =>
       revert H; refine iteND_ fun c4b0 => itePP_ (fun G H => ?g4p) (fun G H => ?g4n)
       case' g4p =>
        have I : decide (100 < (((rd_T28 l0 a).f0).size : Int)) = true := decide_eq_true G; have J : decide (100 < ((rd_T28 l0 a).f0).size) = true := decide_eq_true (by omega); clear G; obtain rfl := si_ H; have W : 0 ≤ (a : Int) := of_decide_eq_true mE; have X : a < (l0.length : Int) := of_decide_eq_true mE; obtain ⟨ad6, K, Y, Z⟩ := at_T28 c.out a W X
        cases K
        replace W := eq_true W; replace X := eq_true X; have d := trivial
       case' g4n =>
        have I : decide (100 < (((rd_T28 l0 a).f0).size : Int)) = false := decide_eq_false G; have J : decide (100 < ((rd_T28 l0 a).f0).size) = false := decide_eq_false (by omega); clear G; revert H; refine itePP_ (fun L H => ?g5p) (fun L H => ?g5n)
        case' g5p =>
         have M : decide (5000 < (((rd_T28 l0 a).f1).size : Int)) = true := decide_eq_true L; have O : decide (5000 < ((rd_T28 l0 a).f1).size) = true := decide_eq_true (by omega); clear L; obtain rfl := si_ H; have l : 0 ≤ (a : Int) := of_decide_eq_true mE; have m : a < (l0.length : Int) := of_decide_eq_true mE; obtain ⟨g, K, n, o⟩ := at_T28 c.out a l m
         cases K
         replace l := eq_true l; replace m := eq_true m; have p : 0 ≤ (a : Int) := of_decide_eq_true mE; have q : a < (l0.length : Int) := of_decide_eq_true mE; obtain ⟨s, e2, t, u⟩ := at_T28 c.out a p q; obtain rfl : g = s := (by injection e2); replace p := eq_true p; replace q := eq_true q; have d := trivial
        case' g5n =>
         have M : decide (5000 < (((rd_T28 l0 a).f1).size : Int)) = false := decide_eq_false L; have O : decide (5000 < ((rd_T28 l0 a).f1).size) = false := decide_eq_false (by omega); clear L; have H' := Aside0.mk H; clear H; have l : 0 ≤ (a : Int) := of_decide_eq_true mE; have m : a < (l0.length : Int) := of_decide_eq_true mE; obtain ⟨g, K, n, o⟩ := at_T28 c.out a l m
         cases K
         replace l := eq_true l; replace m := eq_true m; have p : 0 ≤ (a : Int) := of_decide_eq_true mE; have q : a < (l0.length : Int) := of_decide_eq_true mE; obtain ⟨s, e2, t, u⟩ := at_T28 c.out a p q; obtain rfl : g = s := (by injection e2); replace p := eq_true p; replace q := eq_true q; have p9 : 0 ≤ (a : Int) := of_decide_eq_true mE; have q9 : a < (l0.length : Int) := of_decide_eq_true mE; obtain ⟨ad9, e3, hx9_0, hx9_1⟩ := at_T28 c.out a p9 q9; obtain rfl : g = ad9 := (by injection e3); replace p9 := eq_true p9; replace q9 := eq_true q9; have U := trivial
      case' g3n =>
       obtain rfl := si_ H; have d := trivial
      all_goals
       go_wp2
       first
       | clear d
         go_ret; exact ⟨rS, dE⟩
       | clear U
         go_roundg k1
         case measure => have := D.out; omega
         case rel => exact ⟨(wrap64 (b + (((rd_T28 l0 a).f1).size : Int))), (wrap64 (a + 1)), rS, rS, H', ⟨by have := D.out; omega⟩, dE⟩
def lockkeeperlaw0_GreatReq.f (k : Nat) (a b c : ByteArray) (g : Int) (i : Bool) (d : List (S28)) (j l m n : Int) : Option (Bool) := if (a.size : Int) > 60 then (some true) else (if (b.size : Int) > 700 then (some true) else (if (c.size : Int) > 700 then (some true) else ((lockkeeperlaw0_GreatHeaders.f k d).bind fun e => (some e))))
theorem lockkeeperlaw0_GreatReq.mono : ∀ a b c d e g i j l m k, LeO (lockkeeperlaw0_GreatReq.f k a b c d e g i j l m) (lockkeeperlaw0_GreatReq.f (k + 1) a b c d e g i j l m) := by
 intro a b c d e g i j l m k
 have n := @lockkeeperlaw0_GreatHeaders.mono; unfold lockkeeperlaw0_GreatReq.f
 exact moE
theorem lockkeeperlaw0_GreatReq.calls (k : Nat) (a b c : ByteArray) (g : Int) (i : Bool) (j : Option Addr) (l : Nat) (d : List (S28)) (m n o p : Int) (r : Bool) (w : World) (q : Kd.C k28 w j d.length d) (s : d.length ≤ l) (h : lockkeeperlaw0_GreatReq.f k a b c g i d m n o p = some r) :
  Calls Tryz.prog 17 #[.agg #[.string a, .string b, .string c, .int .i64 g, .bool i, .slice j d.length l, .int .i64 m, .int .u64 n, .int .i64 o, .int .i64 p]] w fun e w' => e = .returned (.bool r) ∧ Below w.heap.size w w' := by
 have ad := Tryz.underlying26; have aa := Aside0.mk q; have u := Aside0.mk s; clear q s; have HB := Aside0.mk (Below.refl w.heap.size w); have H := h; clear h; unfold lockkeeperlaw0_GreatReq.f at H; revert H; refine itePP_ (fun c2 H => ?g1p) (fun c2 H => ?g1n)
 case' g1p =>
  have y : decide (60 < (a.size : Int)) = true := decide_eq_true c2; have z : decide (60 < a.size) = true := decide_eq_true (by omega); clear c2; obtain rfl := si_ H
 case' g1n =>
  have y : decide (60 < (a.size : Int)) = false := decide_eq_false c2; have z : decide (60 < a.size) = false := decide_eq_false (by omega); clear c2; revert H; refine itePP_ (fun A H => ?g2p) (fun A H => ?g2n)
  case' g2p =>
   have B : decide (700 < (b.size : Int)) = true := decide_eq_true A; have D : decide (700 < b.size) = true := decide_eq_true (by omega); clear A; obtain rfl := si_ H
  case' g2n =>
   have B : decide (700 < (b.size : Int)) = false := decide_eq_false A; have D : decide (700 < b.size) = false := decide_eq_false (by omega); clear A; revert H; refine itePP_ (fun E H => ?g3p) (fun E H => ?g3n)
   case' g3p =>
    have G : decide (700 < (c.size : Int)) = true := decide_eq_true E; have I : decide (700 < c.size) = true := decide_eq_true (by omega); clear E; obtain rfl := si_ H
   case' g3n =>
    have G : decide (700 < (c.size : Int)) = false := decide_eq_false E; have I : decide (700 < c.size) = false := decide_eq_false (by omega); clear E; replace H := bd_ H; obtain ⟨t1, A5, H⟩ := H; obtain rfl := si_ H
 all_goals
  go_enter Tryz.func17, Tryz.ntmps17; go_wp2_with (first | ((with_reducible refine gate_dst (N := 1) rfl ?_); (try (refine gate_guard (by rfl) ?_; dsimp only)); refine bxE (N := 1) (cs := #[.string a, .string b, .string c, .int .i64 g, .bool i, .slice j d.length l, .int .i64 m, .int .u64 n, .int .i64 o, .int .i64 p]) (t := 26) fun ab hg ae hbox hb => ?_; obtain ⟨HB', v, x⟩ := bx_ bE hg hbox hb; have ac := x; clear HB hb hbox hg; have HB := HB'; clear HB'; obtain ⟨a0, a1, a2, a3, a4, a5, a6, a7, a8, a9, J, K, L, M, O, U, W, X, Y, Z⟩ := bk10_ v) | (go_at_call 33; (with_reducible refine (lockkeeperlaw0_GreatHeaders.calls k _ _ d t1 _ ?side1 ?side2 A5.out).mono ?_); (case side1 => exact cE); (case side2 => exact u.out); rintro e w' ⟨rfl, ⟨nd, rfl⟩⟩)); go_ret; exact ⟨rE, bE⟩
def lockkeeperlaw0_Headers.l0 : Nat → List (S28) → List (S28) → Int → Option (Bool)
 | 0, _, _, _ => none
 | k + 1, b, c, a => if a < (b.length : Int) then (if 0 ≤ a then (if a < (c.length : Int) then (if (!((((rd_T28 b a).f0).toList) == (((rd_T28 c a).f0).toList)) || (!((((rd_T28 b a).f1).toList) == (((rd_T28 c a).f1).toList)))) = true then (some false) else (lockkeeperlaw0_Headers.l0 k b c (wrap64 (a + 1)))) else (none)) else (none)) else (some true)
def lockkeeperlaw0_Headers.f (k : Nat) (l0 : List (S28)) (l1 : List (S28)) : Option (Bool) := if (l0.length : Int) = (l1.length : Int) then (lockkeeperlaw0_Headers.l0 k l0 l1 0) else (some false)
theorem lockkeeperlaw0_Headers.mono_l : ∀ k, (∀ a b c, LeO (lockkeeperlaw0_Headers.l0 k a b c) (lockkeeperlaw0_Headers.l0 (k + 1) a b c))
 | 0 => fun _ _ _ r h => by simp [lockkeeperlaw0_Headers.l0] at h
 | k + 1 => by
  have ih0 := lockkeeperlaw0_Headers.mono_l k
  ·intros
   unfold lockkeeperlaw0_Headers.l0
   exact moE
theorem lockkeeperlaw0_Headers.mono : ∀ a b k, LeO (lockkeeperlaw0_Headers.f k a b) (lockkeeperlaw0_Headers.f (k + 1) a b) := by
 intro a b k
 have ih0 := lockkeeperlaw0_Headers.mono_l k
 unfold lockkeeperlaw0_Headers.f
 exact moE
theorem lockkeeperlaw0_Headers.calls (k : Nat) (W : Option Addr) (X : Nat) (l0 : List (S28)) (Y : Option Addr) (Z : Nat) (l1 : List (S28)) (r : Bool) (w : World) (t : Kd.C k28 w W l0.length l0) (u : l0.length ≤ X) (v : Kd.C k28 w Y l1.length l1) (x : l1.length ≤ Z) (h : lockkeeperlaw0_Headers.f k l0 l1 = some r) :
  Calls Tryz.prog 56 #[.slice W l0.length X, .slice Y l1.length Z] w fun e w' => e = .returned (.bool r) ∧ Drawn0 w w' := by
 have a0 := Tryz.underlying28; have y := Aside0.mk t; have a3 := Aside0.mk u; clear t u; have z := Aside0.mk v; have a4 := Aside0.mk x; clear v x; have H := h; clear h; unfold lockkeeperlaw0_Headers.f at H; revert H; refine iteFF_ (fun s n o H => ?g1p) (fun s n o H => ?g1n)
 case' g1p =>
  have p : (l0.length == l1.length) = true := by first | simpa using s | (simp at s ⊢; omega)
  clear s; have H' := Aside0.mk H; clear H; have A := trivial
 case' g1n =>
  have p : (l0.length == l1.length) = false := by first | simpa using s | (simp at s ⊢; omega)
  obtain rfl := si_ H; have B := trivial
 all_goals
  go_enter Tryz.func56, Tryz.ntmps56; go_wp2
  repeat (go_quiet (fail); try go_wp2)
  first
  | clear A
    go_loopg [5] k (fun kq D w' => ∃ (a : Int), D = .int .i64 a ∧ Aside0 (lockkeeperlaw0_Headers.l0 kq l0 l1 a = some r) ∧ Aside0 (kq ≤ k) ∧ Drawn0 w w')
    case atStart => exact ⟨(0), rS, H', ⟨Nat.le_refl _⟩, dE⟩
    case round =>
     clear H'; (try clear s); (try clear n); (try clear o); (try clear p); obtain ⟨a, rfl, HA, E, ⟨m1, rfl⟩⟩ := hrel
     cases gk with
     | zero => exact absurd HA.out (by simp [lockkeeperlaw0_Headers.l0])
     | succ k1 =>
      have H := HA.out; clear HA
      simp only [lockkeeperlaw0_Headers.l0] at H
      revert H; refine iteDD_ (fun G H => ?g3p) (fun G H => ?g3n)
      case' g3p =>
       revert H; refine iteND_ fun a1 => iteND_ fun a2 => itePP_ (fun I H => ?g4p) (fun I H => ?g4n)
       case' g4p =>
        have J : (!((((rd_T28 l0 a).f0).toList) == (((rd_T28 l1 a).f0).toList)) || (!((((rd_T28 l0 a).f1).toList) == (((rd_T28 l1 a).f1).toList)))) = true := I; clear I; obtain rfl := si_ H; have b : 0 ≤ (a : Int) := of_decide_eq_true mE; have c : a < (l0.length : Int) := of_decide_eq_true mE; obtain ⟨K, O, i, j⟩ := at_T28 y.out a b c
        cases O
        replace b := eq_true b; replace c := eq_true c; have d : 0 ≤ (a : Int) := of_decide_eq_true mE; have g : a < (l1.length : Int) := of_decide_eq_true mE; obtain ⟨L, U, l, m⟩ := at_T28 z.out a d g
        cases U
        replace d := eq_true d; replace g := eq_true g; have q := trivial
       case' g4n =>
        have J : (!((((rd_T28 l0 a).f0).toList) == (((rd_T28 l1 a).f0).toList)) || (!((((rd_T28 l0 a).f1).toList) == (((rd_T28 l1 a).f1).toList)))) = false := by simpa using I
        clear I; have H' := Aside0.mk H; clear H; have b : 0 ≤ (a : Int) := of_decide_eq_true mE; have c : a < (l0.length : Int) := of_decide_eq_true mE; obtain ⟨K, O, i, j⟩ := at_T28 y.out a b c
        cases O
        replace b := eq_true b; replace c := eq_true c; have d : 0 ≤ (a : Int) := of_decide_eq_true mE; have g : a < (l1.length : Int) := of_decide_eq_true mE; obtain ⟨L, U, l, m⟩ := at_T28 z.out a d g
        cases U
        replace d := eq_true d; replace g := eq_true g; have M := trivial
      case' g3n =>
       obtain rfl := si_ H; have q := trivial
      all_goals
       go_wp2
       repeat (go_quiet (fail); try go_wp2)
       first
       | clear q
         go_ret; exact ⟨rS, dE⟩
       | clear M
         go_roundg k1
         case measure => have := E.out; omega
         case rel => exact ⟨(wrap64 (a + 1)), rS, H', ⟨by have := E.out; omega⟩, dE⟩
  | clear B
    go_ret; exact ⟨rS, dE⟩
def lockkeeperlaw0_Req.f (k : Nat) (a b c : ByteArray) (d : Int) (e : Bool) (g : List (S28)) (i j l m : Int) (n o p : ByteArray) (q : Int) (r : Bool) (s : List (S28)) (t u v x : Int) : Option (Bool) := if a.toList = n.toList then (if b.toList = o.toList then (if c.toList = p.toList then (if d = q then (if (e == r) = true then ((lockkeeperlaw0_Headers.f k g s).bind fun y => (if y = true then (if i = t then (if j = u then (if l = v then (some (m == x)) else (some false)) else (some false)) else (some false)) else (some false))) else (some false)) else (some false)) else (some false)) else (some false)) else (some false)
theorem lockkeeperlaw0_Req.mono : ∀ n o p q r s t u v x a b c d e g i j l m k, LeO (lockkeeperlaw0_Req.f k n o p q r s t u v x a b c d e g i j l m) (lockkeeperlaw0_Req.f (k + 1) n o p q r s t u v x a b c d e g i j l m) := by
 intro n o p q r s t u v x a b c d e g i j l m k
 have y := @lockkeeperlaw0_Headers.mono; unfold lockkeeperlaw0_Req.f
 exact moE
theorem lockkeeperlaw0_Req.calls (k : Nat) (l m n : ByteArray) (o : Int) (a : Bool) (p : Option Addr) (q : Nat) (c : List (S28)) (s u v x : Int) (y z A : ByteArray) (B : Int) (b : Bool) (D : Option Addr) (E : Nat) (d : List (S28)) (G I J K : Int) (r : Bool) (w : World) (L : Kd.C k28 w p c.length c) (M : c.length ≤ q) (O : Kd.C k28 w D d.length d) (U : d.length ≤ E) (h : lockkeeperlaw0_Req.f k l m n o a c s u v x y z A B b d G I J K = some r) :
  Calls Tryz.prog 19 #[.agg #[.string l, .string m, .string n, .int .i64 o, .bool a, .slice p c.length q, .int .i64 s, .int .u64 u, .int .i64 v, .int .i64 x], .agg #[.string y, .string z, .string A, .int .i64 B, .bool b, .slice D d.length E, .int .i64 G, .int .u64 I, .int .i64 J, .int .i64 K]] w fun e w' => e = .returned (.bool r) ∧ Below w.heap.size w w' := by
 have hu26 := Tryz.underlying26; have b0 := Aside0.mk L; have W := Aside0.mk M; clear L M; have b1 := Aside0.mk O; have X := Aside0.mk U; clear O U; have HB := Aside0.mk (Below.refl w.heap.size w); have H := h; clear h; unfold lockkeeperlaw0_Req.f at H; revert H; refine iteEF_ (fun a7 a8 H => ?g1p) (fun c3 a7 a8 H => ?g1n)
 case' g1p =>
  revert H; refine iteEF_ (fun a9 aa H => ?g2p) (fun c4 a9 aa H => ?g2n)
  case' g2p =>
   revert H; refine iteEF_ (fun ab ac H => ?g3p) (fun c5 ab ac H => ?g3n)
   case' g3p =>
    revert H; refine iteEF_ (fun ad ae H => ?g4p) (fun c6 ad ae H => ?g4n)
    case' g4p =>
     revert H; refine itePP_ (fun Y H => ?g5p) (fun Y H => ?g5n)
     case' g5p =>
      have af : (a == b) = true := Y; (try (have ag : decide (a = b) = true := by simpa using Y)); (try (have ah : (a == b) = true := by simpa using Y)); clear Y; replace H := bd_ H; obtain ⟨t1, A8, H⟩ := H; revert H; refine iteB_ (fun c9 H => ?g6p) (fun c9 H => ?g6n)
      case' g6p =>
       subst c9; revert H; refine iteEF_ (fun Z a0 H => ?g7p) (fun c10 Z a0 H => ?g7n)
       case' g7p =>
        revert H; refine iteEF_ (fun a1 a2 H => ?g8p) (fun c11 a1 a2 H => ?g8n)
        case' g8p =>
         revert H; refine iteEF_ (fun a3 a4 H => ?g9p) (fun c12 a3 a4 H => ?g9n)
         case' g9p =>
          obtain rfl := si_ H
         case' g9n =>
          obtain rfl := si_ H
        case' g8n =>
         obtain rfl := si_ H
       case' g7n =>
        obtain rfl := si_ H
      case' g6n =>
       subst c9; obtain rfl := si_ H
     case' g5n =>
      have af : (a == b) = false := by simpa using Y
      (try (have ag : decide (a = b) = false := by simpa using Y)); (try (have ah : (a == b) = false := by simpa using Y)); (try (have c7b3 : ¬ (a = b) := by simpa using Y)); clear Y; obtain rfl := si_ H
    case' g4n =>
     obtain rfl := si_ H
   case' g3n =>
    obtain rfl := si_ H
  case' g2n =>
   obtain rfl := si_ H
 case' g1n =>
  obtain rfl := si_ H
 all_goals
  go_enter Tryz.func19, Tryz.ntmps19; go_wp2_with (first | ((with_reducible refine gate_dst (N := 2) rfl ?_); refine bxE (N := 2) (cs := #[.string l, .string m, .string n, .int .i64 o, .bool a, .slice p c.length q, .int .i64 s, .int .u64 u, .int .i64 v, .int .i64 x]) (t := 26) fun gb1a1 hg w1a2 hbox hb => ?_; obtain ⟨HB', g, a5⟩ := bx_ bE hg hbox hb; have GE1a1 := a5; clear HB hb hbox hg; have HB := HB'; clear HB') | ((with_reducible refine gate_dst (N := 3) rfl ?_); refine bxE (N := 3) (cs := #[.string y, .string z, .string A, .int .i64 B, .bool b, .slice D d.length E, .int .i64 G, .int .u64 I, .int .i64 J, .int .i64 K]) (t := 26) fun gb2a1 hg w2a2 hbox hb => ?_; have a6 := Aside0.mk (hbox); have GW2a1 := sE (w := w) hg; have GE2a1 := sE (w := w) hg; have i := neL g hg; have j := neG g hg; replace g := kM g hb; replace HB := bS bE hb; clear hb hbox hg; have aE := i.out; have aF := j.out; obtain ⟨aG, aH, aI, aJ, aK, aL, aN, aO, aP, aQ, ai, aj, ak, al, am, an, ao, ap, aq, ar⟩ := bk10_ g; obtain ⟨aR, aS, aT, aU, aV, aW, aX, aY, aZ, a_, au, av, aw, ax, ay, az, aA, aB, aC, aD⟩ := bk10_ a6) | (go_at_call 56; (with_reducible refine (lockkeeperlaw0_Headers.calls k _ _ c _ _ d true _ ?side1 ?side2 ?side3 ?side4 A8.out).mono ?_); (case side1 => exact cE); (case side2 => exact W.out); (case side3 => exact cE); (case side4 => exact X.out); rintro e w' ⟨rfl, ⟨nd, rfl⟩⟩) | (go_at_call 56; (with_reducible refine (lockkeeperlaw0_Headers.calls k _ _ c _ _ d false _ ?side1 ?side2 ?side3 ?side4 A8.out).mono ?_); (case side1 => exact cE); (case side2 => exact W.out); (case side3 => exact cE); (case side4 => exact X.out); rintro e w' ⟨rfl, ⟨nd, rfl⟩⟩)); go_ret; exact ⟨rE, bE⟩
def method_Norm.f (k : Nat) (b : ByteArray) : Option (ByteArray) := (method_known.f k b).bind fun a => (if a.toList = ([] : List UInt8) then (some b) else (some a))
theorem method_Norm.mono : ∀ a k, LeO (method_Norm.f k a) (method_Norm.f (k + 1) a) := by
 intro a k
 have b := @method_known.mono; unfold method_Norm.f
 exact moE
theorem method_Norm.calls (k : Nat) (c r : ByteArray) (w : World) (h : method_Norm.f k c = some r) :
  Calls Tryz.prog 57 #[.string c] w fun e w' => e = .returned (.string r) ∧ Below w.heap.size w w' := by
 have HB := Aside0.mk (Below.refl w.heap.size w); have H := h; clear h; unfold method_Norm.f at H; replace H := bd_ H; obtain ⟨i, g, H⟩ := H; revert H; refine iteEF_ (fun a b H => ?g1p) (fun c2 a b H => ?g1n)
 case' g1p =>
  obtain rfl := si_ H
 case' g1n =>
  obtain rfl := si_ H
 all_goals
  go_enter Tryz.func57, Tryz.ntmps57; go_wp2_with (first | ((with_reducible refine gate_callee (f := 76) rfl ?_); refine gL _ Tryz.func76 _ ((method_known.calls k c _ _ g.out).mono ?_); rintro e d ⟨rfl, hb⟩; refine ⟨_, rfl, ?_⟩; replace HB := bS bE hb; (try clear hb))); go_ret; exact ⟨rE, bE⟩
def strings_HasPrefix.f (b c : ByteArray) : Option (Bool) := (stringslite_HasPrefix.f b c).bind fun a => (some a)
theorem strings_HasPrefix.calls (a b : ByteArray) (r : Bool) (w : World) (h : strings_HasPrefix.f a b = some r) :
  Calls Tryz.prog 157 #[.string a, .string b] w fun e w' => e = .returned (.bool r) ∧ Drawn0 w w' := by
 have H : ((stringslite_HasPrefix.f a b).bind fun c => (some c)) = some r := h; clear h; replace H := bd_ H; obtain ⟨c, d, H⟩ := H; obtain rfl := si_ H; go_enter Tryz.func157, Tryz.ntmps157; go_wp2_with (first | ((with_reducible refine gate_callee (f := 186) rfl ?_); refine gL _ Tryz.func186 _ ((stringslite_HasPrefix.calls a b c _ d.out).mono ?_); rintro e w' ⟨rfl, ⟨nd, rfl⟩⟩; refine ⟨_, rfl, ?_⟩)); go_ret; exact ⟨rS, dE⟩
end Go.Proofs.YtfmajangcbgooaaGreatDoor.Pr

