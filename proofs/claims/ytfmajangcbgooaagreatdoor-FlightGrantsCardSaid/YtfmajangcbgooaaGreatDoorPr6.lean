import Derived.Test.YtfmajangcbgooaaGreatDoorPr0
import Derived.Test.YtfmajangcbgooaaGreatDoorK0
import Derived.Test.YtfmajangcbgooaaGreatDoorG1
import Derived.Test.YtfmajangcbgooaaGreatDoorG2
import Derived.Test.YtfmajangcbgooaaGreatDoorG4
import Derived.Test.YtfmajangcbgooaaGreatDoorG0
import Derived.Test.YtfmajangcbgooaaGreatDoorPr4
import Derived.Test.YtfmajangcbgooaaGreatDoorPr1
import Derived.Test.YtfmajangcbgooaaGreatDoorG5
namespace Go.Proofs.YtfmajangcbgooaaGreatDoor.Pr
open Go.RowKit Go.Proofs.YtfmajangcbgooaaGreatDoorW.PrintWords Go.Proofs.YtfmajangcbgooaaGreatDoorW.PrintLast Go.Proofs.YtfmajangcbgooaaGreatDoorW.PrintMore
attribute [local go_sem] max2_int min2_int max_two min_two max_three min_three max_four min_four
set_option linter.unusedVariables false
set_option maxHeartbeats 64000000
set_option maxRecDepth 100000
set_option linter.unusedSimpArgs false
def target_all.l0 : Nat → ByteArray → ByteArray → Int → Int → Option (Bool)
 | 0, _, _, _, _ => none
 | k + 1, b, d, e, a => if a < e then (if 0 ≤ a then (if a < (b.size : Int) then (if (bt b a) < 33 then (some false) else (if (bt b a) > 126 then (some false) else ((strings_IndexByte.f d (bt b a)).bind fun c => (if c ≥ 0 then (some false) else (target_all.l0 k b d e (wrap64 (a + 1))))))) else (none)) else (none)) else (some true)
def target_all.f (k : Nat) (a b : ByteArray) : Option (Bool) := target_all.l0 k a b (a.size : Int) 0
theorem target_all.mono_l : ∀ k, (∀ a b c d, LeO (target_all.l0 k a b c d) (target_all.l0 (k + 1) a b c d))
 | 0 => fun _ _ _ _ r h => by simp [target_all.l0] at h
 | k + 1 => by
  have ih0 := target_all.mono_l k
  ·intros
   unfold target_all.l0
   exact moE
theorem target_all.mono : ∀ a b k, LeO (target_all.f k a b) (target_all.f (k + 1) a b) := by
 intro a b k
 have ih0 := target_all.mono_l k
 unfold target_all.f
 exact moE
theorem target_all.calls (k : Nat) (b d : ByteArray) (r : Bool) (w : World) (h : target_all.f k b d = some r) :
  Calls Tryz.prog 92 #[.string b, .string d] w fun e w' => e = .returned (.bool r) ∧ Drawn0 w w' := by
 have H : (target_all.l0 k b d (b.size : Int) 0) = some r := h; clear h; have H' := Aside0.mk H; clear H; go_enter Tryz.func92, Tryz.ntmps92; go_wp2
 go_loopg [8] k (fun kq g w' => ∃ (a : Int), g = .int .i64 a ∧ Aside0 (target_all.l0 kq b d (b.size : Int) a = some r) ∧ Aside0 (kq ≤ k) ∧ Drawn0 w w')
 case atStart => exact ⟨(0), rS, H', ⟨Nat.le_refl _⟩, dE⟩
 case round =>
  clear H'; obtain ⟨a, rfl, HA, i, ⟨L, rfl⟩⟩ := hrel
  cases gk with
  | zero => exact absurd HA.out (by simp [target_all.l0])
  | succ k1 =>
   have H := HA.out; clear HA
   simp only [target_all.l0] at H
   revert H; refine iteDD_ (fun j H => ?g1p) (fun j H => ?g1n)
   case' g1p =>
    revert H; refine iteND_ fun A => iteND_ fun B => iteDD_ (fun l H => ?g2p) (fun l H => ?g2n)
    case' g2p =>
     obtain rfl := si_ H; obtain ⟨M, O, D⟩ := btf_ (s := b) (x := a) mE mE; have c := trivial
    case' g2n =>
     revert H; refine iteGG_ (fun m H => ?g3p) (fun m H => ?g3n)
     case' g3p =>
      obtain rfl := si_ H; obtain ⟨U, W, E⟩ := btf_ (s := b) (x := a) mE mE; obtain ⟨X, Y, G⟩ := btf_ (s := b) (x := a) mE mE; have c := trivial
     case' g3n =>
      replace H := bd_ H; obtain ⟨Z, I, H⟩ := H; revert H; refine iteJJ_ (fun n H => ?g4p) (fun n H => ?g4n)
      case' g4p =>
       obtain rfl := si_ H; obtain ⟨J, K, t⟩ := btf_ (s := b) (x := a) mE mE; obtain ⟨u, v, o⟩ := btf_ (s := b) (x := a) mE mE; obtain ⟨y, z, p⟩ := btf_ (s := b) (x := a) mE mE; have c := trivial
      case' g4n =>
       have H' := Aside0.mk H; clear H; obtain ⟨J, K, t⟩ := btf_ (s := b) (x := a) mE mE; obtain ⟨u, v, o⟩ := btf_ (s := b) (x := a) mE mE; obtain ⟨y, z, p⟩ := btf_ (s := b) (x := a) mE mE; have q := trivial
   case' g1n =>
    obtain rfl := si_ H; have c := trivial
   all_goals
    go_wp2_with (first | (go_at_call 141; (with_reducible refine (strings_IndexByte.calls d (bt b a) _ _ I.out).mono ?_); rintro e w' ⟨rfl, ⟨nd, rfl⟩⟩))
    first
    | clear c
      go_ret; exact ⟨rS, dE⟩
    | clear q
      go_roundg k1
      case measure => have := i.out; omega
      case rel => exact ⟨(wrap64 (a + 1)), rS, H', ⟨by have := i.out; omega⟩, dE⟩
def stringslite_HasPrefix.f (b a : ByteArray) : Option (Bool) := if (b.size : Int) ≥ (a.size : Int) then (if 0 ≤ (a.size : Int) then (if (a.size : Int) ≤ (b.size : Int) then (some ((b.extract 0 ((a.size : Int) : Int).toNat).toList == a.toList)) else (none)) else (none)) else (some false)
theorem stringslite_HasPrefix.calls (b c : ByteArray) (r : Bool) (w : World) (h : stringslite_HasPrefix.f b c = some r) :
  Calls Tryz.prog 186 #[.string b, .string c] w fun e w' => e = .returned (.bool r) ∧ Drawn0 w w' := by
 have H := h; clear h; unfold stringslite_HasPrefix.f at H; revert H; refine itePP_ (fun a H => ?g1p) (fun a H => ?g1n)
 case' g1p =>
  have d : decide ((c.size : Int) ≤ (b.size : Int)) = true := decide_eq_true a; have g : decide (c.size ≤ b.size) = true := decide_eq_true (Int.ofNat_le.mp a); clear a; revert H; refine iteNT_ fun i j => iteNT_ fun l m H => ?_; obtain rfl := si_ H
 case' g1n =>
  have d : decide ((c.size : Int) ≤ (b.size : Int)) = false := decide_eq_false a; have g : decide (c.size ≤ b.size) = false := decide_eq_false (fun h => a (Int.ofNat_le.mpr h)); clear a; obtain rfl := si_ H
 all_goals
  go_enter Tryz.func186, Tryz.ntmps186; go_wp2; go_ret; exact ⟨rS, dE⟩
def stringslite_TrimPrefix.f (a c : ByteArray) : Option (ByteArray) := (stringslite_HasPrefix.f a c).bind fun b => (if b = true then (if 0 ≤ (c.size : Int) then (if (c.size : Int) ≤ (a.size : Int) then (some (a.extract ((c.size : Int) : Int).toNat a.size)) else (none)) else (none)) else (some a))
theorem stringslite_TrimPrefix.calls (a b r : ByteArray) (w : World) (h : stringslite_TrimPrefix.f a b = some r) :
  Calls Tryz.prog 181 #[.string a, .string b] w fun e w' => e = .returned (.string r) ∧ Drawn0 w w' := by
 have H := h; clear h; unfold stringslite_TrimPrefix.f at H; replace H := bd_ H; obtain ⟨l, j, H⟩ := H; revert H; refine iteB_ (fun c2 H => ?g1p) (fun c2 H => ?g1n)
 case' g1p =>
  subst c2; revert H; refine iteNT_ fun c d => iteNT_ fun g i H => ?_; obtain rfl := si_ H
 case' g1n =>
  subst c2; obtain rfl := si_ H
 all_goals
  go_enter Tryz.func181, Tryz.ntmps181; go_wp2_with (first | ((with_reducible refine gate_callee (f := 186) rfl ?_); refine gL _ Tryz.func186 _ ((stringslite_HasPrefix.calls a b _ _ j.out).mono ?_); rintro e w' ⟨rfl, ⟨nd, rfl⟩⟩; refine ⟨_, rfl, ?_⟩)); go_ret; exact ⟨rS, dE⟩
def strings_TrimPrefix.f (b c : ByteArray) : Option (ByteArray) := (stringslite_TrimPrefix.f b c).bind fun a => (some a)
theorem strings_TrimPrefix.calls (a b r : ByteArray) (w : World) (h : strings_TrimPrefix.f a b = some r) :
  Calls Tryz.prog 143 #[.string a, .string b] w fun e w' => e = .returned (.string r) ∧ Drawn0 w w' := by
 have H : ((stringslite_TrimPrefix.f a b).bind fun c => (some c)) = some r := h; clear h; replace H := bd_ H; obtain ⟨c, d, H⟩ := H; obtain rfl := si_ H; go_enter Tryz.func143, Tryz.ntmps143; go_wp2_with (first | ((with_reducible refine gate_callee (f := 181) rfl ?_); refine gL _ Tryz.func181 _ ((stringslite_TrimPrefix.calls a b c _ d.out).mono ?_); rintro e w' ⟨rfl, ⟨nd, rfl⟩⟩; refine ⟨_, rfl, ?_⟩)); go_ret; exact ⟨rS, dE⟩
def target_dots.j0 : Nat → ByteArray → Bool → Option (Int)
 | 0, _, _ => none
 | k + 1, a, b => if b = true then (some 1) else (if a.toList = ([46, 46] : List UInt8) then (some 2) else (if a.toList = ([46, 37, 50, 101] : List UInt8) then (some 2) else (if a.toList = ([37, 50, 101, 46] : List UInt8) then (some 2) else (if a.toList = ([37, 50, 101, 37, 50, 101] : List UInt8) then (some 2) else (some 0)))))
def target_dots.f (k : Nat) (b : ByteArray) : Option (Int) := (octet_Lower.f b).bind fun a => (if a.toList = ([46] : List UInt8) then (target_dots.j0 k a (a.toList == ([46] : List UInt8))) else (target_dots.j0 k a (a.toList == ([37, 50, 101] : List UInt8))))
theorem target_dots.mono_l : ∀ k, (∀ a b, LeO (target_dots.j0 k a b) (target_dots.j0 (k + 1) a b))
 | 0 => fun _ _ r h => by simp [target_dots.j0] at h
 | k + 1 => by
  have ih0 := target_dots.mono_l k
  ·intros
   unfold target_dots.j0
   exact moE
theorem target_dots.mono : ∀ a k, LeO (target_dots.f k a) (target_dots.f (k + 1) a) := by
 intro a k
 have ih0 := target_dots.mono_l k
 unfold target_dots.f
 exact moE
theorem target_dots.calls (k : Nat) (v : ByteArray) (r : Int) (w : World) (h : target_dots.f k v = some r) :
  Calls Tryz.prog 144 #[.string v] w fun e w' => e = .returned (.int .i64 r) ∧ Below w.heap.size w w' := by
 have HB := Aside0.mk (Below.refl w.heap.size w); have H := h; clear h; unfold target_dots.f at H; replace H := bd_ H; obtain ⟨u, y, H⟩ := H; have c := Aside0.mk H; clear H; go_enter Tryz.func144, Tryz.ntmps144
 go_upto_if 5 with (first | ((with_reducible refine gate_callee (f := 95) rfl ?_); refine gL _ Tryz.func95 _ ((octet_Lower.calls v u _ y.out).mono ?_); rintro e x ⟨rfl, hb⟩; refine ⟨_, rfl, ?_⟩; replace HB := bS bE hb; (try clear hb)))
 (try simp only [Act.put, List.setIfInBounds_toArray, List.set_cons_zero, List.set_cons_succ])
 go_cut [5] (fun d wc => ∃ (kq : Nat) (b : Bool), d = .bool b ∧ Aside0 (target_dots.j0 kq u b = some r) ∧ Aside0 (kq ≤ k) ∧ Aside0 (Below w.heap.size w wc))
 case first =>
  have H := c.out; clear c; revert H; refine iteEF_ (fun a g H => ?g1p) (fun c3 a g H => ?g1n)
  case' g1p =>
   (first | rw [a] | (simp only [i64_w, i32_w]; rw [a]) | skip); have H' := Aside0.mk H; clear H; have i := trivial
  case' g1n =>
   (first | rw [a] | (simp only [i64_w, i32_w]; rw [a]) | skip); have H' := Aside0.mk H; clear H; have j := trivial
  all_goals
   go_wp2; go_meet
   first
   | clear i
     case rel => exact ⟨_, ((u.toList == ([46] : List UInt8))), rS, H', ⟨oE⟩, ⟨bE⟩⟩
   | clear j
     case rel => exact ⟨_, ((u.toList == ([37, 50, 101] : List UInt8))), rS, H', ⟨oE⟩, ⟨bE⟩⟩
 case rest =>
  clear c; (try clear c3); obtain ⟨kq, b, rfl, HA, z, HB⟩ := hcut
  cases kq with
  | zero => exact absurd HA.out (by simp [target_dots.j0])
  | succ A =>
   have H := HA.out; clear HA
   simp only [target_dots.j0] at H
   revert H; refine iteB_ (fun c5 H => ?g3p) (fun c5 H => ?g3n)
   case' g3p =>
    subst c5; obtain rfl := si_ H
   case' g3n =>
    subst c5; revert H; refine iteEF_ (fun l m H => ?g4p) (fun c6 l m H => ?g4n)
    case' g4p =>
     obtain rfl := si_ H
    case' g4n =>
     revert H; refine iteEF_ (fun n o H => ?g5p) (fun c7 n o H => ?g5n)
     case' g5p =>
      obtain rfl := si_ H
     case' g5n =>
      revert H; refine iteEF_ (fun p q H => ?g6p) (fun c8 p q H => ?g6n)
      case' g6p =>
       obtain rfl := si_ H
      case' g6n =>
       revert H; refine iteEF_ (fun s t H => ?g7p) (fun c9 s t H => ?g7n)
       case' g7p =>
        obtain rfl := si_ H
       case' g7n =>
        obtain rfl := si_ H
   all_goals
    go_wp2; go_ret; exact ⟨rE, bE⟩
def target_Clean.l0 : Nat → List ByteArray → List ByteArray → List ByteArray → Int → Int → Option (ByteArray)
 | 0, _, _, _, _, _ => none
 | k + 1, e, c, b, d, a => if a < d then (if 0 ≤ a then (if a < (b.length : Int) then ((target_dots.f k (rdOf ByteArray.empty b a)).bind fun g => (if g = 0 then (if c.length < 8796093022208 then (target_Clean.l0 k e (c ++ [rdOf ByteArray.empty b a]) b d (wrap64 (a + 1))) else (none)) else (if g = 2 then (if 0 ≤ (mx (wrap64 ((c.length : Int) - 1)) 0) then (if (mx (wrap64 ((c.length : Int) - 1)) 0) ≤ (c.length : Int) then (target_Clean.l0 k e (c.take ((mx (wrap64 ((c.length : Int) - 1)) 0) : Int).toNat) b d (wrap64 (a + 1))) else (none)) else (none)) else (target_Clean.l0 k e c b d (wrap64 (a + 1)))))) else (none)) else (none)) else (if 0 ≤ (wrap64 ((e.length : Int) - 1)) then (if (wrap64 ((e.length : Int) - 1)) < (e.length : Int) then ((target_dots.f k (rdOf ByteArray.empty e (wrap64 ((e.length : Int) - 1)))).bind fun l => (if l > 0 then (if c.length < 8796093022208 then ((strings_Join.f (c ++ [(⟨#[]⟩ : ByteArray)]) (⟨#[47]⟩ : ByteArray)).bind fun i => (if 1 + i.size ≤ 9223372036854775807 then (some ((⟨#[47]⟩ : ByteArray) ++ i)) else (none))) else (none)) else ((strings_Join.f c (⟨#[47]⟩ : ByteArray)).bind fun j => (if 1 + j.size ≤ 9223372036854775807 then (some ((⟨#[47]⟩ : ByteArray) ++ j)) else (none))))) else (none)) else (none))
def target_Clean.f (k : Nat) (c : ByteArray) : Option (ByteArray) := (strings_TrimPrefix.f c (⟨#[47]⟩ : ByteArray)).bind fun b => ((strings_Split.f b (⟨#[47]⟩ : ByteArray)).bind fun a => (target_Clean.l0 k a ([] : List ByteArray) a (a.length : Int) 0))
theorem target_Clean.mono_l : ∀ k, (∀ a b c d e, LeO (target_Clean.l0 k a b c d e) (target_Clean.l0 (k + 1) a b c d e))
 | 0 => fun _ _ _ _ _ r h => by simp [target_Clean.l0] at h
 | k + 1 => by
  have ih0 := target_Clean.mono_l k
  ·intros
   have g := @target_dots.mono; unfold target_Clean.l0
   exact moE
theorem target_Clean.mono : ∀ a k, LeO (target_Clean.f k a) (target_Clean.f (k + 1) a) := by
 intro a k
 have ih0 := target_Clean.mono_l k
 have b := @target_dots.mono; unfold target_Clean.f
 exact moE
theorem target_Clean.calls (k : Nat) (a0 r : ByteArray) (w : World) (h : target_Clean.f k a0 = some r) :
  Calls Tryz.prog 93 #[.string a0] w fun e w' => e = .returned (.string r) ∧ Below w.heap.size w w' := by
 have HB := Aside0.mk (Below.refl w.heap.size w); have H := h; clear h; unfold target_Clean.f at H; replace H := bd_ H; obtain ⟨t1, A1, H⟩ := H; replace H := bd_ H; obtain ⟨g, A2, H⟩ := H; have H' := Aside0.mk H; clear H; go_enter Tryz.func93, Tryz.ntmps93; go_wp2_with (first | ((with_reducible refine gate_callee (f := 143) rfl ?_); refine gL _ Tryz.func143 _ ((strings_TrimPrefix.calls a0 (⟨#[47]⟩ : ByteArray) t1 _ A1.out).mono ?_); rintro e w' ⟨rfl, ⟨nd, rfl⟩⟩; refine ⟨_, rfl, ?_⟩) | ((with_reducible refine gate_callee (f := 142) rfl ?_); refine gL _ Tryz.func142 _ ((strings_Split.calls t1 (⟨#[47]⟩ : ByteArray) g _ A2.out).mono ?_); rintro e w2a1 ⟨v2a2, rfl, u, hb⟩; refine ⟨_, rfl, ?_⟩; have n0_ := Aside0.mk (Kd.R_lower u (below_size bE)); have n1_ := bS bE hb; clear HB; have o := n0_; have HB := n1_; clear n0_ n1_; (try clear hb); (try clear hb1); (try clear hk); (try clear hi); (try clear u); obtain ⟨n, d, X⟩ := Kd.R_slice o.out; subst X))
 go_loopg [4, 12] k (fun kq v ai w' => ∃ (c : List ByteArray) (a : Int), ai = .int .i64 a ∧ Aside0 (target_Clean.l0 kq g c g (g.length : Int) a = some r) ∧ Aside0 (kq ≤ k) ∧ Aside0 (Kd.R Kd.string 9 w' w.heap.size (fun k_ => some k_ ≠ (v : Value).ownBlock) (.slice n g.length d) g) ∧ Aside0 (Kd.R Kd.string 9 w' w.heap.size (fun k_ => some k_ ≠ ((.slice n g.length d) : Value).ownBlock ∧ some k_ ≠ ((.slice n g.length d) : Value).ownBlock) v c) ∧ Aside0 (Kd.R Kd.string 9 w' w.heap.size (fun k_ => some k_ ≠ (v : Value).ownBlock) (.slice n g.length d) g) ∧ Aside0 (Below w.heap.size w w'))
 case atStart => exact ⟨(([] : List ByteArray)), (0), rS, H', ⟨Nat.le_refl _⟩, ⟨by (with_reducible repeat (first | apply Kd.R_alloc | apply Kd.R_drewN | apply Kd.R_drew)); exact Kd.R_mono o.out (fun _ hk => (by simp [Value.ownBlock]))⟩, ⟨by first | exact Kd.R_nil _ _ _ _ _ | exact Kd.N_nil _ _ _ _ _ | exact Kd.V_nil _ _ _ _ _ | exact Kd.Q_nil _ _ _ _ _ | exact Kd.S_nil _ _ _ _ _⟩, ⟨by (with_reducible repeat (first | apply Kd.R_alloc | apply Kd.R_drewN | apply Kd.R_drew)); exact Kd.R_mono o.out (fun _ hk => (by simp [Value.ownBlock]))⟩, ⟨bE⟩⟩
 case round =>
  clear H'; obtain ⟨c, a, rfl, HA, I, HO_3, HO_4, HO_10, HB⟩ := hrel
  cases gk with
  | zero => exact absurd HA.out (by simp [target_Clean.l0])
  | succ k1 =>
   have H := HA.out; clear HA
   simp only [target_Clean.l0] at H
   revert H; refine iteDD_ (fun aj H => ?g1p) (fun aj H => ?g1n)
   case' g1p =>
    revert H; refine iteND_ fun c5b0 => iteND_ fun ak H => ?_; replace H := bd_ H; obtain ⟨t3, A7, H⟩ := H; revert H; refine iteEF_ (fun al am H => ?g2p) (fun c8 al am H => ?g2n)
    case' g2p =>
     revert H; refine iteNA_ fun an H => ?_
     try replace H := bsm_ H
     generalize K : (c ++ [rdOf ByteArray.empty g a]) = y10 at H; have ao := Aside0.mk K.symm; clear K; have H' := Aside0.mk H; clear H; have Y : 0 ≤ (a : Int) := of_decide_eq_true mE; have Z : a < (g.length : Int) := of_decide_eq_true mE; obtain ⟨L, e4, hx11_0⟩ := Kd.at_string (Kd.R_reads' HO_10.out).2.2 a Y Z
     cases e4
     replace Y := eq_true Y; replace Z := eq_true Z; have G6 := trivial; have x := trivial; have a1 := trivial
    case' g2n =>
     revert H; refine iteEF_ (fun y c9b1 H => ?g3p) (fun c9 y c9b1 H => ?g3n)
     case' g3p =>
      generalize z : (mx (wrap64 ((c.length : Int) - 1)) 0) = l at H; (try rw [z] at A7); have hji10_ : (if (wrap64 ((c.length : Int) - 1)) < 0 then 0 else (wrap64 ((c.length : Int) - 1))) = l := z; revert H; refine iteNT_ fun a2 a3 => iteNT_ fun c12b0 c12b1 H => ?_
      try replace H := bsm_ H
      generalize M : (c.take ((l) : Int).toNat) = y13 at H; have O := Aside0.mk M.symm; clear M; have H' := Aside0.mk H; clear H; have p : 0 ≤ (a : Int) := of_decide_eq_true mE; have q : a < (g.length : Int) := of_decide_eq_true mE; obtain ⟨A, e4, J⟩ := Kd.at_string (Kd.R_reads' HO_10.out).2.2 a p q
      cases e4
      replace p := eq_true p; replace q := eq_true q; have G5 := trivial; have x := trivial; have a4 := trivial
     case' g3n =>
      have H' := Aside0.mk H; clear H; have a5 : 0 ≤ (a : Int) := of_decide_eq_true mE; have a6 : a < (g.length : Int) := of_decide_eq_true mE; obtain ⟨ad10, e4, hx10_0⟩ := Kd.at_string (Kd.R_reads' HO_10.out).2.2 a a5 a6
      cases e4
      replace a5 := eq_true a5; replace a6 := eq_true a6; have G6 := trivial; have x := trivial; have a7 := trivial
   case' g1n =>
    generalize s : (wrap64 ((g.length : Int) - 1)) = j at H; have hji5w := (i64_w _).trans s; revert H; refine iteND_ fun ak => iteND_ fun c7b0 H => ?_; replace H := bd_ H; obtain ⟨t3, A8, H⟩ := H; revert H; refine iteGG_ (fun y H => ?g4p) (fun y H => ?g4n)
    case' g4p =>
     revert H; refine iteNA_ fun a8 H => ?_
     try replace H := bsm_ H
     generalize U : (c ++ [(⟨#[]⟩ : ByteArray)]) = y11 at H; have Ny11 := Aside0.mk U.symm; clear U; replace H := bd_ H; obtain ⟨t4, A12, H⟩ := H; revert H; refine iteNP_ fun a9 H => ?_; have c13b0 := eq_true a9; have c13b1 := decide_eq_true a9
     try have c13b2 : (9223372036854775807 < 1 + t4.size) = False := eq_false (Nat.not_lt.2 a9)
     obtain rfl := si_ H; have p : 0 ≤ ((j) : Int) := of_decide_eq_true mE; have q : (j) < (g.length : Int) := of_decide_eq_true mE; obtain ⟨A, e6, J⟩ := Kd.at_string (Kd.R_reads' HO_3.out).2.2 (j) p q
     cases e6
     replace p := eq_true p; replace q := eq_true q; have G8 := trivial; have W := trivial
    case' g4n =>
     replace H := bd_ H; obtain ⟨t5, A10, H⟩ := H; revert H; refine iteNP_ fun aa H => ?_; have a2 := eq_true aa; have a3 := decide_eq_true aa
     try have c11b2 : (9223372036854775807 < 1 + t5.size) = False := eq_false (Nat.not_lt.2 aa)
     obtain rfl := si_ H; have ab : 0 ≤ ((j) : Int) := of_decide_eq_true mE; have ac : (j) < (g.length : Int) := of_decide_eq_true mE; obtain ⟨ad12, e6, hx12_0⟩ := Kd.at_string (Kd.R_reads' HO_3.out).2.2 (j) ab ac
     cases e6
     replace ab := eq_true ab; replace ac := eq_true ac; have G7 := trivial; have W := trivial
   all_goals
    go_wp2_with (first | (have z_ := G5; clear z_; ((with_reducible refine gate_callee (f := 144) rfl ?_); refine gL _ Tryz.func144 _ ((target_dots.calls k1 (rdOf ByteArray.empty g a) _ _ A7.out).mono ?_); rintro e w3a1 ⟨rfl, hb⟩; refine ⟨_, rfl, ?_⟩; replace HO_3 := rM HO_3 hb; replace HO_4 := rM HO_4 hb; replace HO_10 := rM HO_10 hb; replace HB := bS bE hb; (try clear hb); obtain ⟨ad, ae, af⟩ := Kd.R_slice HO_4.out; subst af; have B : ((l) : Int) ≤ ((c.length : Int) : Int) := of_decide_eq_true mE; obtain ⟨i3a4, hi3a4, _, hsz3a5, _⟩ := info_parts info9; have hcut3a5 := cut_to (P := Tryz.prog) 39 9 .i64 Tryz.underlying39 hi3a4 ad c.length ae (l) (of_decide_eq_true mE) B (Kd.R_reads' HO_4.out).2.1; have t := Kd.R_take (m := ((l) : Int).toNat) HO_4.out (by omega); have D : y13.length = ((l) : Int).toNat := (by rw [O.out, List.length_take]; omega); rw [← O.out] at t; rw [← D] at t hcut3a5; clear D hi3a4 hsz3a5 HO_4; have E := Aside0.mk t; clear t; replace B := eq_true B)) | (have z_ := G6; clear z_; ((with_reducible refine gate_callee (f := 144) rfl ?_); refine gL _ Tryz.func144 _ ((target_dots.calls k1 (rdOf ByteArray.empty g a) _ _ A7.out).mono ?_); rintro e w3a1 ⟨rfl, hb⟩; refine ⟨_, rfl, ?_⟩; replace HO_3 := rM HO_3 hb; replace HO_4 := rM HO_4 hb; replace HO_10 := rM HO_10 hb; replace HB := bS bE hb; (try clear hb))) | ((with_reducible refine gate_builtin (b := .append) (xs := #[.tmp 20, .tmp 22]) rfl ?_); at_builtin; refine Kd.R_append Kd.string (w0 := w) w.heap.size rfl (.tmp 20) (.tmp 22) 39 9 (.string ⟨#[]⟩) 16 rfl Tryz.underlying39 info9 rfl (by decide) (by omega) u4 c (rdOf ByteArray.empty g a) [.string (rdOf ByteArray.empty g a)] (fun k_ => some k_ ≠ (.slice (some L) g.length d : Value).ownBlock ∧ some k_ ≠ (.slice (some L) g.length d : Value).ownBlock) (fun _ => False) rfl rfl ?aP (fun _ hk => hk.elim) ?aF ?aO ?aB ?aS ?aL ?_; (case aP => exact rfl); (case aB => exact bE); (case aF => exact (fun k_ hk => ⟨Kd.fresh' (Kd.R_lt (rK HO_3.out)) k_ hk, Kd.fresh' (Kd.R_lt (rK HO_10.out)) k_ hk⟩)); (case aO => exact (rK HO_4.out)); (case aS => exact (below_size bE)); (case aL => have := an.out; omega); intro v4a1 w4a2 ho hb hg hat; rw [← ao.out] at ho; have n0_ := Aside0.mk (Kd.R_after (ok := (fun _ => True)) (rK (Kd.R_mono HO_3.out (fun _ hk => ⟨trivial, hk⟩))) hg hat); have n1_ := Aside0.mk (Kd.R_after (ok := (fun _ => True)) (rK (Kd.R_mono HO_10.out (fun _ hk => ⟨trivial, hk⟩))) hg hat); have n2_ := Aside0.mk (hb); have n3_ := Aside0.mk (ho); clear HO_3; clear HO_10; clear HB; clear HO_4; have HO_3 := n0_; have HO_10 := n1_; have HB := n2_; have G := n3_; clear n0_ n1_ n2_ n3_; clear ho hb hg hat) | (have z_ := G7; clear z_; ((with_reducible refine gate_callee (f := 144) rfl ?_); refine goesL_ (some 39) rfl rfl Tryz.func144 (by kernel_rfl) rfl #[.string (rdOf ByteArray.empty g (j))] rfl (by (try simp only [List.map_toArray, List.map_cons, List.map_nil]); first | done | (simp only [s]; rfl) | rfl | (simp only [List.length_drop, List.length_take]; rfl)) ?_; (with_reducible refine (target_dots.calls k1 (rdOf ByteArray.empty g (j)) _ _ A8.out).mono ?_); rintro e w5a1 ⟨rfl, hb⟩; refine ⟨_, rfl, ?_⟩; replace HO_3 := rM HO_3 hb; replace HO_4 := rM HO_4 hb; replace HO_10 := rM HO_10 hb; replace HB := bS bE hb; (try clear hb); obtain ⟨Ao5a2, co5a2, ag⟩ := Kd.R_slice HO_4.out; subst ag)) | (have z_ := G8; clear z_; ((with_reducible refine gate_callee (f := 144) rfl ?_); refine goesL_ (some 39) rfl rfl Tryz.func144 (by kernel_rfl) rfl #[.string (rdOf ByteArray.empty g (j))] rfl (by (try simp only [List.map_toArray, List.map_cons, List.map_nil]); first | done | (simp only [s]; rfl) | rfl | (simp only [List.length_drop, List.length_take]; rfl)) ?_; (with_reducible refine (target_dots.calls k1 (rdOf ByteArray.empty g (j)) _ _ A8.out).mono ?_); rintro e w5a1 ⟨rfl, hb⟩; refine ⟨_, rfl, ?_⟩; replace HO_3 := rM HO_3 hb; replace HO_4 := rM HO_4 hb; replace HO_10 := rM HO_10 hb; replace HB := bS bE hb; (try clear hb))) | ((with_reducible refine gate_builtin (b := .append) (xs := #[.tmp 41, .tmp 42]) rfl ?_); at_builtin; refine Kd.R_append Kd.string (w0 := w) w.heap.size rfl (.tmp 41) (.tmp 42) 39 9 (.string ⟨#[]⟩) 16 rfl Tryz.underlying39 info9 rfl (by decide) (by omega) u4 c (⟨#[]⟩ : ByteArray) [.string ⟨#[]⟩] (fun k_ => some k_ ≠ (.slice (some A) g.length d : Value).ownBlock ∧ some k_ ≠ (.slice (some A) g.length d : Value).ownBlock) (fun _ => False) rfl rfl ?aP (fun _ hk => hk.elim) ?aF ?aO ?aB ?aS ?aL ?_; (case aP => exact rfl); (case aB => exact bE); (case aF => exact (fun k_ hk => ⟨Kd.fresh' (Kd.R_lt (rK HO_3.out)) k_ hk, Kd.fresh' (Kd.R_lt (rK HO_10.out)) k_ hk⟩)); (case aO => exact (rK HO_4.out)); (case aS => exact (below_size bE)); (case aL => have := a8.out; omega); intro v6a1 w6a2 ho hb hg hat; rw [← Ny11.out] at ho; have n0_ := Aside0.mk (Kd.R_after (ok := (fun _ => True)) (rK (Kd.R_mono HO_3.out (fun _ hk => ⟨trivial, hk⟩))) hg hat); have n1_ := Aside0.mk (Kd.R_after (ok := (fun _ => True)) (rK (Kd.R_mono HO_10.out (fun _ hk => ⟨trivial, hk⟩))) hg hat); have n2_ := Aside0.mk (hb); have n3_ := Aside0.mk (ho); clear HO_3; clear HO_10; clear HB; clear HO_4; have HO_3 := n0_; have HO_10 := n1_; have HB := n2_; have i := n3_; clear n0_ n1_ n2_ n3_; clear ho hb hg hat; obtain ⟨Ao6a4, co6a4, ah⟩ := Kd.R_slice i.out; subst ah) | ((with_reducible refine gate_callee (f := 68) rfl ?_); refine gL _ Tryz.func68 _ ((strings_Join.calls _ _ y11 (⟨#[47]⟩ : ByteArray) t4 _ ?side1 ?side2 A12.out).mono ?_); (case side1 => repeat (first | exact (Kd.R_reads' i.out).2.2 | (with_reducible refine Kd.C_alloc ?_ _) | (with_reducible refine Kd.C_drewN ?_ _) | (with_reducible refine Kd.C_drew ?_))); (case side2 => exact (Kd.R_reads' i.out).2.1); rintro e w7a1 ⟨rfl, hb⟩; refine ⟨_, rfl, ?_⟩; replace HO_3 := rM HO_3 hb; replace HO_10 := rM HO_10 hb; replace i := rM i hb; replace HB := bS bE hb; (try clear hb)) | ((with_reducible refine gate_callee (f := 68) rfl ?_); refine gL _ Tryz.func68 _ ((strings_Join.calls _ _ c (⟨#[47]⟩ : ByteArray) t5 _ ?side1 ?side2 A10.out).mono ?_); (case side1 => repeat (first | exact (Kd.R_reads' HO_4.out).2.2 | (with_reducible refine Kd.C_alloc ?_ _) | (with_reducible refine Kd.C_drewN ?_ _) | (with_reducible refine Kd.C_drew ?_))); (case side2 => exact (Kd.R_reads' HO_4.out).2.1); rintro e w8a1 ⟨rfl, hb⟩; refine ⟨_, rfl, ?_⟩; replace HO_3 := rM HO_3 hb; replace HO_4 := rM HO_4 hb; replace HO_10 := rM HO_10 hb; replace HB := bS bE hb; (try clear hb)))
    first
    | clear x
      go_roundg k1
      case measure => have := I.out; omega
      first
      | clear a1
        case rel => exact ⟨(y10), (wrap64 (a + 1)), rS, H', ⟨by have := I.out; omega⟩, ⟨rK (Kd.R_mono HO_3.out (fun _ hk => hk.2))⟩, ⟨by first | exact rK G.out | exact rK (Kd.R_mono G.out (fun k_ h_ e_ => h_ (e_.trans (own_len _ _ _ _))))⟩, ⟨rK (Kd.R_mono HO_10.out (fun _ hk => hk.2))⟩, ⟨bE⟩⟩
      | clear a4
        case rel => exact ⟨(y13), (wrap64 (a + 1)), rS, H', ⟨by have := I.out; omega⟩, ⟨by first | exact rK HO_3.out | exact rK (Kd.R_mono HO_3.out (fun k_ h_ e_ => h_ (e_.trans (own_len _ _ _ _))))⟩, ⟨by first | exact rK E.out | exact rK (Kd.R_mono E.out (fun k_ h_ e_ => h_ (e_.trans (own_len _ _ _ _))))⟩, ⟨by first | exact rK HO_10.out | exact rK (Kd.R_mono HO_10.out (fun k_ h_ e_ => h_ (e_.trans (own_len _ _ _ _))))⟩, ⟨bE⟩⟩
      | clear a7
        case rel => exact ⟨(c), (wrap64 (a + 1)), rS, H', ⟨by have := I.out; omega⟩, ⟨by first | exact rK HO_3.out | exact rK (Kd.R_mono HO_3.out (fun k_ h_ e_ => h_ (e_.trans (own_len _ _ _ _))))⟩, ⟨by first | exact rK HO_4.out | exact rK (Kd.R_mono HO_4.out (fun k_ h_ e_ => h_ (e_.trans (own_len _ _ _ _))))⟩, ⟨by first | exact rK HO_10.out | exact rK (Kd.R_mono HO_10.out (fun k_ h_ e_ => h_ (e_.trans (own_len _ _ _ _))))⟩, ⟨bE⟩⟩
    | clear W
      go_ret; exact ⟨by first | rfl | (simp [errW_none, errW_some] <;> rfl) | (simp only [← s]; first | rfl | (simp [errW_none, errW_some] <;> rfl)) | (simp [*, errW_none, errW_some] <;> rfl), bE⟩
theorem drawn_then {w a b : World} (h : Drawn0 w a) (k : Drawn0 a b) : Drawn0 w b := by
 obtain ⟨n, rfl⟩ := k
 exact h.step n
theorem allByte_total (c : Int) : safe_Byte.f c = some ((safe_Byte.f c).getD false) := by
 unfold safe_Byte.f strings_IndexByte.f
 simp only [Option.bind_some]
 repeat' split
 all_goals rfl
def allByte (s : ByteArray) : Bool := (bytesOf s).all fun c => (safe_Byte.f c).getD false
theorem allByte_at (s : ByteArray) (k : Nat) (h : k < s.size) : ((bytesOf s).drop k).all (fun c => (safe_Byte.f c).getD false) = ((safe_Byte.f (bt s k)).getD false && ((bytesOf s).drop (k + 1)).all fun c => (safe_Byte.f c).getD false) := by
 have h' : k < (bytesOf s).length := by rw [bytesOf_length]; exact h
 rw [List.drop_eq_getElem_cons h', List.all_cons]
 have hb : bt s k = (bytesOf s)[k] := by
  rw [← rd_bytesOf]
  simp [rd, List.getD_eq_getElem?_getD, h']
 rw [hb]
theorem allByte_calls (a : ByteArray) (w : World) (hs : a.size ≤ 9223372036854775806) :
  Calls Tryz.prog 159 #[.string a, .func (.func 160) #[] #[]] w fun e w' => e = .returned (.bool (allByte a)) ∧ Drawn0 w w' := by
 go_enter Tryz.func159, Tryz.ntmps159
 go_wp2
 go_loopw [8] (fun b wr => ∃ k : Nat, k ≤ a.size ∧ b = .int .i64 k ∧ Aside0 (allByte a = ((bytesOf a).drop k).all fun c => (safe_Byte.f c).getD false) ∧ Aside0 (Drawn0 w wr)) (fun b _ => a.size - (intOf b).toNat)
 case atStart => exact ⟨0, Nat.zero_le _, rfl, ⟨by rw [List.drop_zero]; rfl⟩, ⟨Drawn0.refl _⟩⟩
 case round =>
  obtain ⟨k, hk, rfl, HE, HD⟩ := hrel
  by_cases hlt : k < a.size
  ·have hne := allByte_at a k hlt
   have g : 0 ≤ (k : Int) := by omega
   have i : (k : Int) < (a.size : Int) := by omega
   have hbt : bt a (k : Int) = ((a[k]'hlt).toNat : Int) := by
    unfold bt
    rw [dif_pos (by simpa using hlt)]
    simp
   cases hb : (safe_Byte.f (bt a k)).getD false with
   | true =>
    rw [hb, Bool.true_and] at hne
    have HN := Aside0.mk hne
    have HT := Aside0.mk ((congrArg safe_Byte.f hbt).symm.trans ((allByte_total (bt a k)).trans (congrArg some hb)))
    clear hne hb
    go_wp2_with (go_at_call 160; refine (safe_Byte.calls _ true _ HT.out).mono ?_; rintro e d ⟨rfl, hd⟩; have HD2 := Aside0.mk hd; clear hd)
    exact ⟨⟨k + 1, by omega, by go_num, ⟨HE.out.trans HN.out⟩, ⟨drawn_then HD.out HD2.out⟩⟩, by simp [intOf]; omega⟩
   | false =>
    rw [hb, Bool.false_and] at hne
    have HN := Aside0.mk hne
    have HT := Aside0.mk ((congrArg safe_Byte.f hbt).symm.trans ((allByte_total (bt a k)).trans (congrArg some hb)))
    clear hne hb
    go_wp2_with (go_at_call 160; refine (safe_Byte.calls _ false _ HT.out).mono ?_; rintro e d ⟨rfl, hd⟩; have HD2 := Aside0.mk hd; clear hd)
    go_ret
    exact ⟨by rw [HE.out, HN.out]; rfl, drawn_then HD.out HD2.out⟩
  ·have e : k = a.size := by omega
   have hz : ((bytesOf a).drop k).all (fun c => (safe_Byte.f c).getD false) = true := by
    rw [List.drop_eq_nil_of_le (by rw [bytesOf_length]; omega)]
    rfl
   have HN := Aside0.mk hz
   clear hz
   go_wp2
   go_ret
   exact ⟨by rw [HE.out, HN.out]; rfl, HD.out⟩
theorem allWord_total (c : Int) : safe_word.f c = some ((safe_word.f c).getD false) := by
 unfold safe_word.f strings_IndexByte.f
 simp only [Option.bind_some]
 repeat' split
 all_goals rfl
def allWord (s : ByteArray) : Bool := (bytesOf s).all fun c => (safe_word.f c).getD false
theorem allWord_at (s : ByteArray) (k : Nat) (h : k < s.size) : ((bytesOf s).drop k).all (fun c => (safe_word.f c).getD false) = ((safe_word.f (bt s k)).getD false && ((bytesOf s).drop (k + 1)).all fun c => (safe_word.f c).getD false) := by
 have h' : k < (bytesOf s).length := by rw [bytesOf_length]; exact h
 rw [List.drop_eq_getElem_cons h', List.all_cons]
 have hb : bt s k = (bytesOf s)[k] := by
  rw [← rd_bytesOf]
  simp [rd, List.getD_eq_getElem?_getD, h']
 rw [hb]
theorem allWord_calls (a : ByteArray) (w : World) (hs : a.size ≤ 9223372036854775806) :
  Calls Tryz.prog 159 #[.string a, .func (.func 161) #[] #[]] w fun e w' => e = .returned (.bool (allWord a)) ∧ Drawn0 w w' := by
 go_enter Tryz.func159, Tryz.ntmps159
 go_wp2
 go_loopw [8] (fun b wr => ∃ k : Nat, k ≤ a.size ∧ b = .int .i64 k ∧ Aside0 (allWord a = ((bytesOf a).drop k).all fun c => (safe_word.f c).getD false) ∧ Aside0 (Drawn0 w wr)) (fun b _ => a.size - (intOf b).toNat)
 case atStart => exact ⟨0, Nat.zero_le _, rfl, ⟨by rw [List.drop_zero]; rfl⟩, ⟨Drawn0.refl _⟩⟩
 case round =>
  obtain ⟨k, hk, rfl, HE, HD⟩ := hrel
  by_cases hlt : k < a.size
  ·have hne := allWord_at a k hlt
   have g : 0 ≤ (k : Int) := by omega
   have i : (k : Int) < (a.size : Int) := by omega
   have hbt : bt a (k : Int) = ((a[k]'hlt).toNat : Int) := by
    unfold bt
    rw [dif_pos (by simpa using hlt)]
    simp
   cases hb : (safe_word.f (bt a k)).getD false with
   | true =>
    rw [hb, Bool.true_and] at hne
    have HN := Aside0.mk hne
    have HT := Aside0.mk ((congrArg safe_word.f hbt).symm.trans ((allWord_total (bt a k)).trans (congrArg some hb)))
    clear hne hb
    go_wp2_with (go_at_call 161; refine (safe_word.calls _ true _ HT.out).mono ?_; rintro e d ⟨rfl, hd⟩; have HD2 := Aside0.mk hd; clear hd)
    exact ⟨⟨k + 1, by omega, by go_num, ⟨HE.out.trans HN.out⟩, ⟨drawn_then HD.out HD2.out⟩⟩, by simp [intOf]; omega⟩
   | false =>
    rw [hb, Bool.false_and] at hne
    have HN := Aside0.mk hne
    have HT := Aside0.mk ((congrArg safe_word.f hbt).symm.trans ((allWord_total (bt a k)).trans (congrArg some hb)))
    clear hne hb
    go_wp2_with (go_at_call 161; refine (safe_word.calls _ false _ HT.out).mono ?_; rintro e d ⟨rfl, hd⟩; have HD2 := Aside0.mk hd; clear hd)
    go_ret
    exact ⟨by rw [HE.out, HN.out]; rfl, drawn_then HD.out HD2.out⟩
  ·have e : k = a.size := by omega
   have hz : ((bytesOf a).drop k).all (fun c => (safe_word.f c).getD false) = true := by
    rw [List.drop_eq_nil_of_le (by rw [bytesOf_length]; omega)]
    rfl
   have HN := Aside0.mk hz
   clear hz
   go_wp2
   go_ret
   exact ⟨by rw [HE.out, HN.out]; rfl, HD.out⟩
def safe_all.f (a : ByteArray) (b : Nat) : Option Bool := if a.size ≤ 9223372036854775806 then (if b = 160 then some (allByte a) else if b = 161 then some (allWord a) else none) else none
theorem safe_all.calls (a : ByteArray) (b : Nat) (r : Bool) (w : World) (h : safe_all.f a b = some r) :
  Calls Tryz.prog 159 #[.string a, .func (.func b) #[] #[]] w fun e w' => e = .returned (.bool r) ∧ Drawn0 w w' := by
 unfold safe_all.f at h
 split at h
 case isFalse => cases h
 rename_i hs
 split at h
 ·rename_i h1
  subst h1; obtain rfl := Option.some.inj h; exact allByte_calls a w hs
 ·split at h
  ·rename_i h1
   subst h1; obtain rfl := Option.some.inj h; exact allWord_calls a w hs
  ·cases h
def safe_Essence.f (k : Nat) (i : ByteArray) : Option (ByteArray × Bool) := (strings_Cut.f i (⟨#[59]⟩ : ByteArray)).bind fun c => ((octet_Trim.f k c.1).bind fun b => ((strings_Cut.f b (⟨#[47]⟩ : ByteArray)).bind fun a => (if a.2.2 = true then ((octet_Token.f k a.1).bind fun d => (if d = true then ((octet_Token.f k a.2.1).bind fun e => (if e = true then ((octet_Lower.f b).bind fun g => (some (g, true))) else (some ((⟨#[]⟩ : ByteArray), false)))) else (some ((⟨#[]⟩ : ByteArray), false)))) else (some ((⟨#[]⟩ : ByteArray), false)))))
theorem safe_Essence.mono : ∀ a k, LeO (safe_Essence.f k a) (safe_Essence.f (k + 1) a) := by
 intro a k
 have b := @octet_Token.mono; have c := @octet_Trim.mono; unfold safe_Essence.f
 exact moE
theorem safe_Essence.calls (k : Nat) (l c : ByteArray) (d : Bool) (w : World) (hM_ : Aside0 (LaidW w)) (h : safe_Essence.f k l = some (c, d)) :
  Calls Tryz.prog 187 #[.string l] w fun e w' => e = .returned (.tuple #[.string c, .bool d]) ∧ Below w.heap.size w w' := by
 have HB := Aside0.mk (Below.refl w.heap.size w); have H := h; clear h; unfold safe_Essence.f at H; replace H := bd_ H; obtain ⟨⟨m, r, z⟩, s, H⟩ := H; replace H : ((octet_Trim.f k m).bind fun b => ((strings_Cut.f b (⟨#[47]⟩ : ByteArray)).bind fun a => (if a.2.2 = true then ((octet_Token.f k a.1).bind fun g => (if g = true then ((octet_Token.f k a.2.1).bind fun i => (if i = true then ((octet_Lower.f b).bind fun j => (some (j, true))) else (some ((⟨#[]⟩ : ByteArray), false)))) else (some ((⟨#[]⟩ : ByteArray), false)))) else (some ((⟨#[]⟩ : ByteArray), false))))) = some (c, d) := H; replace H := bd_ H; obtain ⟨b, t, H⟩ := H; replace H := bd_ H; obtain ⟨⟨n, o, p⟩, u, H⟩ := H; replace H : (if p = true then ((octet_Token.f k n).bind fun g => (if g = true then ((octet_Token.f k o).bind fun i => (if i = true then ((octet_Lower.f b).bind fun j => (some (j, true))) else (some ((⟨#[]⟩ : ByteArray), false)))) else (some ((⟨#[]⟩ : ByteArray), false)))) else (some ((⟨#[]⟩ : ByteArray), false))) = some (c, d) := H; revert H; refine iteB_ (fun c4 H => ?g1p) (fun c4 H => ?g1n)
 case' g1p =>
  subst c4; replace H := bd_ H; obtain ⟨g, v, H⟩ := H; revert H; refine iteB_ (fun c6 H => ?g2p) (fun c6 H => ?g2n)
  case' g2p =>
   subst c6; replace H := bd_ H; obtain ⟨i, x, H⟩ := H; revert H; refine iteB_ (fun c8 H => ?g3p) (fun c8 H => ?g3n)
   case' g3p =>
    subst c8; replace H := bd_ H; obtain ⟨j, y, H⟩ := H
    simp only [Option.some.injEq, Prod.mk.injEq] at H
    obtain ⟨rfl, rfl⟩ := H
   case' g3n =>
    subst c8
    simp only [Option.some.injEq, Prod.mk.injEq] at H
    obtain ⟨rfl, rfl⟩ := H
  case' g2n =>
   subst c6
   simp only [Option.some.injEq, Prod.mk.injEq] at H
   obtain ⟨rfl, rfl⟩ := H
 case' g1n =>
  subst c4
  simp only [Option.some.injEq, Prod.mk.injEq] at H
  obtain ⟨rfl, rfl⟩ := H
 all_goals
  go_enter Tryz.func187, Tryz.ntmps187; go_wp2_with (first | ((with_reducible refine gate_callee (f := 90) rfl ?_); refine gL _ Tryz.func90 _ ((strings_Cut.calls l (⟨#[59]⟩ : ByteArray) m r _ _ ?side1 s.out).mono ?_); (case side1 => exact ⟨lE⟩); rintro e w' ⟨rfl, ⟨nd, rfl⟩⟩; refine ⟨_, rfl, ?_⟩) | ((with_reducible refine gate_callee (f := 77) rfl ?_); refine gL _ Tryz.func77 _ ((octet_Trim.calls k m _ _ t.out).mono ?_); rintro e w' ⟨rfl, ⟨nd, rfl⟩⟩; refine ⟨_, rfl, ?_⟩) | ((with_reducible refine gate_callee (f := 90) rfl ?_); refine gL _ Tryz.func90 _ ((strings_Cut.calls b (⟨#[47]⟩ : ByteArray) n o _ _ ?side1 u.out).mono ?_); (case side1 => exact ⟨lE⟩); rintro e w' ⟨rfl, ⟨nd, rfl⟩⟩; refine ⟨_, rfl, ?_⟩) | (go_at_call 146; (with_reducible refine (octet_Token.calls k n _ _ v.out).mono ?_); rintro e w' ⟨rfl, ⟨nd, rfl⟩⟩) | (go_at_call 146; (with_reducible refine (octet_Token.calls k o _ _ x.out).mono ?_); rintro e w' ⟨rfl, ⟨nd, rfl⟩⟩) | ((with_reducible refine gate_callee (f := 95) rfl ?_); refine gL _ Tryz.func95 _ ((octet_Lower.calls b _ _ y.out).mono ?_); rintro e q ⟨rfl, hb⟩; refine ⟨_, rfl, ?_⟩; replace HB := bS bE hb; (try clear hb))); go_ret2; exact ⟨rE, bE⟩
def safe_isForm.f (k : Nat) (b : ByteArray) : Option (Bool) := (safe_Essence.f k b).bind fun a => (if a.1.toList = ([97, 112, 112, 108, 105, 99, 97, 116, 105, 111, 110, 47, 120, 45, 119, 119, 119, 45, 102, 111, 114, 109, 45, 117, 114, 108, 101, 110, 99, 111, 100, 101, 100] : List UInt8) then (some true) else (if a.1.toList = ([109, 117, 108, 116, 105, 112, 97, 114, 116, 47, 102, 111, 114, 109, 45, 100, 97, 116, 97] : List UInt8) then (some true) else (some (a.1.toList == ([116, 101, 120, 116, 47, 112, 108, 97, 105, 110] : List UInt8)))))
theorem safe_isForm.mono : ∀ a k, LeO (safe_isForm.f k a) (safe_isForm.f (k + 1) a) := by
 intro a k
 have b := @safe_Essence.mono; unfold safe_isForm.f
 exact moE
theorem safe_isForm.calls (k : Nat) (i : ByteArray) (r : Bool) (w : World) (hM_ : Aside0 (LaidW w)) (h : safe_isForm.f k i = some r) :
  Calls Tryz.prog 162 #[.string i] w fun e w' => e = .returned (.bool r) ∧ Below w.heap.size w w' := by
 have HB := Aside0.mk (Below.refl w.heap.size w); have H := h; clear h; unfold safe_isForm.f at H; replace H := bd_ H; obtain ⟨⟨g, m⟩, l, H⟩ := H; replace H : (if g.toList = ([97, 112, 112, 108, 105, 99, 97, 116, 105, 111, 110, 47, 120, 45, 119, 119, 119, 45, 102, 111, 114, 109, 45, 117, 114, 108, 101, 110, 99, 111, 100, 101, 100] : List UInt8) then (some true) else (if g.toList = ([109, 117, 108, 116, 105, 112, 97, 114, 116, 47, 102, 111, 114, 109, 45, 100, 97, 116, 97] : List UInt8) then (some true) else (some (g.toList == ([116, 101, 120, 116, 47, 112, 108, 97, 105, 110] : List UInt8))))) = some r := H; revert H; refine iteEF_ (fun a b H => ?g1p) (fun c2 a b H => ?g1n)
 case' g1p =>
  obtain rfl := si_ H
 case' g1n =>
  revert H; refine iteEF_ (fun c d H => ?g2p) (fun c3 c d H => ?g2n)
  case' g2p =>
   obtain rfl := si_ H
  case' g2n =>
   obtain rfl := si_ H
 all_goals
  go_enter Tryz.func162, Tryz.ntmps162; go_wp2_with (first | ((with_reducible refine gate_callee (f := 187) rfl ?_); refine gL _ Tryz.func187 _ ((safe_Essence.calls k i g _ _ ?side1 l.out).mono ?_); (case side1 => exact ⟨lE⟩); rintro e j ⟨rfl, hb⟩; refine ⟨_, rfl, ?_⟩; replace HB := bS bE hb; (try clear hb))); go_ret; exact ⟨rE, bE⟩
def stringslite_CutPrefix.f (a c : ByteArray) : Option (ByteArray × Bool) := (stringslite_HasPrefix.f a c).bind fun b => (if b = true then (if 0 ≤ (c.size : Int) then (if (c.size : Int) ≤ (a.size : Int) then (some (a.extract ((c.size : Int) : Int).toNat a.size, true)) else (none)) else (none)) else (some (a, false)))
theorem stringslite_CutPrefix.calls (a b c : ByteArray) (d : Bool) (w : World) (h : stringslite_CutPrefix.f a b = some (c, d)) :
  Calls Tryz.prog 208 #[.string a, .string b] w fun e w' => e = .returned (.tuple #[.string c, .bool d]) ∧ Drawn0 w w' := by
 have H := h; clear h; unfold stringslite_CutPrefix.f at H; replace H := bd_ H; obtain ⟨n, m, H⟩ := H; revert H; refine iteB_ (fun c2 H => ?g1p) (fun c2 H => ?g1n)
 case' g1p =>
  subst c2; revert H; refine iteNT_ fun g i => iteNT_ fun j l H => ?_
  simp only [Option.some.injEq, Prod.mk.injEq] at H
  obtain ⟨rfl, rfl⟩ := H
 case' g1n =>
  subst c2
  simp only [Option.some.injEq, Prod.mk.injEq] at H
  obtain ⟨rfl, rfl⟩ := H
 all_goals
  go_enter Tryz.func208, Tryz.ntmps208; go_wp2_with (first | ((with_reducible refine gate_callee (f := 186) rfl ?_); refine gL _ Tryz.func186 _ ((stringslite_HasPrefix.calls a b _ _ m.out).mono ?_); rintro e w' ⟨rfl, ⟨nd, rfl⟩⟩; refine ⟨_, rfl, ?_⟩)); go_ret2; exact ⟨rS, dE⟩
def strings_CutPrefix.f (b c : ByteArray) : Option (ByteArray × Bool) := (stringslite_CutPrefix.f b c).bind fun a => (some (a.1, a.2))
theorem strings_CutPrefix.calls (a b c : ByteArray) (d : Bool) (w : World) (h : strings_CutPrefix.f a b = some (c, d)) :
  Calls Tryz.prog 188 #[.string a, .string b] w fun e w' => e = .returned (.tuple #[.string c, .bool d]) ∧ Drawn0 w w' := by
 have H := h; clear h; unfold strings_CutPrefix.f at H; replace H := bd_ H; obtain ⟨⟨g, i⟩, j, H⟩ := H; replace H : (some (g, i)) = some (c, d) := H
 simp only [Option.some.injEq, Prod.mk.injEq] at H
 obtain ⟨rfl, rfl⟩ := H; go_enter Tryz.func188, Tryz.ntmps188; go_wp2_with (first | ((with_reducible refine gate_callee (f := 208) rfl ?_); refine gL _ Tryz.func208 _ ((stringslite_CutPrefix.calls a b g i _ j.out).mono ?_); rintro e w' ⟨rfl, ⟨nd, rfl⟩⟩; refine ⟨_, rfl, ?_⟩)); go_ret2; exact ⟨rS, dE⟩
def safe_Range.f (k : Nat) (e : ByteArray) : Option (Bool) := (strings_CutPrefix.f e (⟨#[98, 121, 116, 101, 115, 61]⟩ : ByteArray)).bind fun b => ((strings_Cut.f b.1 (⟨#[45]⟩ : ByteArray)).bind fun a => ((octet_Digits.f k a.1).bind fun c => (if b.2 = true then (if a.2.2 = true then (if c.2 = true then ((octet_Digits.f k a.2.1).bind fun d => (if a.2.1.toList = ([] : List UInt8) then (some true) else (if d.2 = true then (some (decide (d.1 ≥ c.1))) else (some false)))) else (some false)) else (some false)) else (some false))))
theorem safe_Range.mono : ∀ a k, LeO (safe_Range.f k a) (safe_Range.f (k + 1) a) := by
 intro a k
 have b := @octet_Digits.mono; unfold safe_Range.f
 exact moE
theorem safe_Range.calls (k : Nat) (j : ByteArray) (r : Bool) (w : World) (hM_ : Aside0 (LaidW w)) (h : safe_Range.f k j = some r) :
  Calls Tryz.prog 163 #[.string j] w fun e w' => e = .returned (.bool r) ∧ Drawn0 w w' := by
 have H := h; clear h; unfold safe_Range.f at H; replace H := bd_ H; obtain ⟨⟨l, m⟩, s, H⟩ := H; replace H : ((strings_Cut.f l (⟨#[45]⟩ : ByteArray)).bind fun c => ((octet_Digits.f k c.1).bind fun b => (if m = true then (if c.2.2 = true then (if b.2 = true then ((octet_Digits.f k c.2.1).bind fun a => (if c.2.1.toList = ([] : List UInt8) then (some true) else (if a.2 = true then (some (decide (a.1 ≥ b.1))) else (some false)))) else (some false)) else (some false)) else (some false)))) = some r := H; replace H := bd_ H; obtain ⟨⟨n, d, p⟩, t, H⟩ := H; replace H : ((octet_Digits.f k n).bind fun b => (if m = true then (if p = true then (if b.2 = true then ((octet_Digits.f k d).bind fun a => (if d.toList = ([] : List UInt8) then (some true) else (if a.2 = true then (some (decide (a.1 ≥ b.1))) else (some false)))) else (some false)) else (some false)) else (some false))) = some r := H; replace H := bd_ H; obtain ⟨⟨o, u⟩, v, H⟩ := H; replace H : (if m = true then (if p = true then (if u = true then ((octet_Digits.f k d).bind fun a => (if d.toList = ([] : List UInt8) then (some true) else (if a.2 = true then (some (decide (a.1 ≥ o))) else (some false)))) else (some false)) else (some false)) else (some false)) = some r := H; revert H; refine iteB_ (fun c4 H => ?g1p) (fun c4 H => ?g1n)
 case' g1p =>
  subst c4; revert H; refine iteB_ (fun c5 H => ?g2p) (fun c5 H => ?g2n)
  case' g2p =>
   subst c5; revert H; refine iteB_ (fun c6 H => ?g3p) (fun c6 H => ?g3n)
   case' g3p =>
    subst c6; replace H := bd_ H; obtain ⟨⟨q, x⟩, y, H⟩ := H; replace H : (if d.toList = ([] : List UInt8) then (some true) else (if x = true then (some (decide (q ≥ o))) else (some false))) = some r := H; revert H; refine iteEF_ (fun g i H => ?g4p) (fun c8 g i H => ?g4n)
    case' g4p =>
     obtain rfl := si_ H
    case' g4n =>
     revert H; refine iteB_ (fun c9 H => ?g5p) (fun c9 H => ?g5n)
     case' g5p =>
      subst c9; obtain rfl := si_ H
     case' g5n =>
      subst c9; obtain rfl := si_ H
   case' g3n =>
    subst c6; obtain rfl := si_ H
  case' g2n =>
   subst c5; obtain rfl := si_ H
 case' g1n =>
  subst c4; obtain rfl := si_ H
 all_goals
  go_enter Tryz.func163, Tryz.ntmps163; go_wp2_with (first | ((with_reducible refine gate_callee (f := 188) rfl ?_); refine gL _ Tryz.func188 _ ((strings_CutPrefix.calls j (⟨#[98, 121, 116, 101, 115, 61]⟩ : ByteArray) l _ _ s.out).mono ?_); rintro e w' ⟨rfl, ⟨nd, rfl⟩⟩; refine ⟨_, rfl, ?_⟩) | ((with_reducible refine gate_callee (f := 90) rfl ?_); refine gL _ Tryz.func90 _ ((strings_Cut.calls l (⟨#[45]⟩ : ByteArray) n d _ _ ?side1 t.out).mono ?_); (case side1 => exact ⟨lE⟩); rintro e w' ⟨rfl, ⟨nd, rfl⟩⟩; refine ⟨_, rfl, ?_⟩) | ((with_reducible refine gate_callee (f := 129) rfl ?_); refine gL _ Tryz.func129 _ ((octet_Digits.calls k n o _ _ v.out).mono ?_); rintro e w' ⟨rfl, ⟨nd, rfl⟩⟩; refine ⟨_, rfl, ?_⟩) | ((with_reducible refine gate_callee (f := 129) rfl ?_); refine gL _ Tryz.func129 _ ((octet_Digits.calls k d q _ _ y.out).mono ?_); rintro e w' ⟨rfl, ⟨nd, rfl⟩⟩; refine ⟨_, rfl, ?_⟩)); go_ret; exact ⟨rS, dE⟩
def safe_Header.j0 : Nat → ByteArray → ByteArray → Bool → Option (Bool)
 | 0, _, _, _ => none
 | k + 1, g, a, i => if i = true then ((safe_all.f g 161).bind fun b => (some b)) else (if a.toList = ([99, 111, 110, 116, 101, 110, 116, 45, 116, 121, 112, 101] : List UInt8) then ((safe_all.f g 160).bind fun c => (if c = true then ((safe_isForm.f k g).bind fun d => (some d)) else (some false))) else (if a.toList = ([114, 97, 110, 103, 101] : List UInt8) then ((safe_Range.f k g).bind fun e => (some e)) else (some false)))
def safe_Header.f (k : Nat) (c d : ByteArray) : Option (Bool) := (octet_Trim.f k d).bind fun b => (if (b.size : Int) > 128 then (some false) else ((octet_Lower.f c).bind fun a => (if a.toList = ([97, 99, 99, 101, 112, 116] : List UInt8) then ((safe_all.f b 160).bind fun e => (some e)) else (if a.toList = ([97, 99, 99, 101, 112, 116, 45, 108, 97, 110, 103, 117, 97, 103, 101] : List UInt8) then (safe_Header.j0 k b a (a.toList == ([97, 99, 99, 101, 112, 116, 45, 108, 97, 110, 103, 117, 97, 103, 101] : List UInt8))) else (safe_Header.j0 k b a (a.toList == ([99, 111, 110, 116, 101, 110, 116, 45, 108, 97, 110, 103, 117, 97, 103, 101] : List UInt8)))))))
theorem safe_Header.mono_l : ∀ k, (∀ a b c, LeO (safe_Header.j0 k a b c) (safe_Header.j0 (k + 1) a b c))
 | 0 => fun _ _ _ r h => by simp [safe_Header.j0] at h
 | k + 1 => by
  have ih0 := safe_Header.mono_l k
  ·intros
   have d := @octet_Trim.mono; have e := @safe_Range.mono; have g := @safe_isForm.mono; unfold safe_Header.j0
   exact moE
theorem safe_Header.mono : ∀ a b k, LeO (safe_Header.f k a b) (safe_Header.f (k + 1) a b) := by
 intro a b k
 have ih0 := safe_Header.mono_l k
 have c := @octet_Trim.mono; have d := @safe_Range.mono; have e := @safe_isForm.mono; unfold safe_Header.f
 exact moE
theorem safe_Header.calls (k : Nat) (b c : ByteArray) (r : Bool) (w : World) (hM_ : Aside0 (LaidW w)) (h : safe_Header.f k b c = some r) :
  Calls Tryz.prog 121 #[.agg #[.string b, .string c]] w fun e w' => e = .returned (.bool r) ∧ Below w.heap.size w w' := by
 have a3 := Tryz.underlying28; have HB := Aside0.mk (Below.refl w.heap.size w); have H := h; clear h; unfold safe_Header.f at H; replace H := bd_ H; obtain ⟨o, A1, H⟩ := H; revert H; refine itePP_ (fun c2 H => ?g1p) (fun c2 H => ?g1n)
 case' g1p =>
  have q : decide (128 < (o.size : Int)) = true := decide_eq_true c2; have s : decide (128 < o.size) = true := decide_eq_true (by omega); clear c2; obtain rfl := si_ H; have u := trivial
 case' g1n =>
  have q : decide (128 < (o.size : Int)) = false := decide_eq_false c2; have s : decide (128 < o.size) = false := decide_eq_false (by omega); clear c2; replace H := bd_ H; obtain ⟨Y, A3, H⟩ := H; revert H; refine iteEF_ (fun v x H => ?g2p) (fun c4 v x H => ?g2n)
  case' g2p =>
   replace H := bd_ H; obtain ⟨t3, A5, H⟩ := H; obtain rfl := si_ H; have u := trivial
  case' g2n =>
   have z := Aside0.mk H; clear H; have K := trivial
 all_goals
  go_enter Tryz.func121, Tryz.ntmps121
  first
  | clear u
    go_wp2_with (first | ((with_reducible refine gate_dst (N := 1) rfl ?_); refine bxE (N := 1) (cs := #[.string b, .string c]) (t := 28) fun p hg L hbox hb => ?_; obtain ⟨HB', a, l⟩ := bx_ bE hg hbox hb; have A := l; clear HB hb hbox hg; have HB := HB'; clear HB'; obtain ⟨m, n, g, i⟩ := bk2_ a) | ((with_reducible refine gate_callee (f := 77) rfl ?_); refine gL _ Tryz.func77 _ ((octet_Trim.calls k c _ _ A1.out).mono ?_); rintro e w' ⟨rfl, ⟨nd, rfl⟩⟩; refine ⟨_, rfl, ?_⟩) | ((with_reducible refine gate_callee (f := 95) rfl ?_); refine gL _ Tryz.func95 _ ((octet_Lower.calls b _ _ A3.out).mono ?_); rintro e M ⟨rfl, hb⟩; refine ⟨_, rfl, ?_⟩; replace a := kM a hb; replace HB := bS bE hb; (try clear hb)) | ((with_reducible refine gate_callee (f := 159) rfl ?_); refine gL _ Tryz.func159 _ ((safe_all.calls o 160 _ _ A5.out).mono ?_); rintro e w' ⟨rfl, ⟨nd, rfl⟩⟩; refine ⟨_, rfl, ?_⟩)); go_ret; exact ⟨rE, bE⟩
  | clear K
    go_upto_if 17 with (first | ((with_reducible refine gate_dst (N := 1) rfl ?_); refine bxE (N := 1) (cs := #[.string b, .string c]) (t := 28) fun p hg L hbox hb => ?_; obtain ⟨HB', a, l⟩ := bx_ bE hg hbox hb; have A := l; clear HB hb hbox hg; have HB := HB'; clear HB'; obtain ⟨m, n, g, i⟩ := bk2_ a) | ((with_reducible refine gate_callee (f := 77) rfl ?_); refine gL _ Tryz.func77 _ ((octet_Trim.calls k c o _ A1.out).mono ?_); rintro e w' ⟨rfl, ⟨nd, rfl⟩⟩; refine ⟨_, rfl, ?_⟩) | ((with_reducible refine gate_callee (f := 95) rfl ?_); refine gL _ Tryz.func95 _ ((octet_Lower.calls b Y _ A3.out).mono ?_); rintro e M ⟨rfl, hb⟩; refine ⟨_, rfl, ?_⟩; replace a := kM a hb; replace HB := bS bE hb; (try clear hb)))
    (try simp only [Act.put, List.setIfInBounds_toArray, List.set_cons_zero, List.set_cons_succ])
    go_cut [17] (fun O wc => ∃ (kq : Nat) (d : Bool), O = .bool d ∧ Aside0 (safe_Header.j0 kq o Y d = some r) ∧ Aside0 (kq ≤ k) ∧ Aside0 (wc.heap[p]? = some (.cells #[.string b, .string c] 28 (0, 0))) ∧ Aside0 (Below w.heap.size w wc))
    case first =>
     have H := z.out; clear z; revert H; refine iteEF_ (fun j U H => ?g4p) (fun c6 j U H => ?g4n)
     case' g4p =>
      (first | rw [j] | (simp only [i64_w, i32_w]; rw [j]) | skip); have H' := Aside0.mk H; clear H; have W := trivial
     case' g4n =>
      (first | rw [j] | (simp only [i64_w, i32_w]; rw [j]) | skip); have H' := Aside0.mk H; clear H; have X := trivial
     all_goals
      go_wp2; go_meet
      first
      | clear W
        case rel => exact ⟨_, ((Y.toList == ([97, 99, 99, 101, 112, 116, 45, 108, 97, 110, 103, 117, 97, 103, 101] : List UInt8))), rS, H', ⟨oE⟩, ⟨kC a⟩, ⟨bE⟩⟩
      | clear X
        case rel => exact ⟨_, ((Y.toList == ([99, 111, 110, 116, 101, 110, 116, 45, 108, 97, 110, 103, 117, 97, 103, 101] : List UInt8))), rS, H', ⟨oE⟩, ⟨kC a⟩, ⟨bE⟩⟩
    case rest =>
     clear z; (try clear c6); (try clear c2); (try clear q); (try clear s); (try clear c4); (try clear v); (try clear x); (try clear m); (try clear n); (try clear g); (try clear i); obtain ⟨kq, d, rfl, HA, HJ11, a, HB⟩ := hcut
     cases kq with
     | zero => exact absurd HA.out (by simp [safe_Header.j0])
     | succ y =>
      have H := HA.out; clear HA
      simp only [safe_Header.j0] at H
      revert H; refine iteB_ (fun B H => ?g6p) (fun B H => ?g6n)
      case' g6p =>
       subst B; replace H := bd_ H; obtain ⟨t4, Z, H⟩ := H; obtain rfl := si_ H
      case' g6n =>
       subst B; revert H; refine iteEF_ (fun D E H => ?g7p) (fun c12 D E H => ?g7n)
       case' g7p =>
        replace H := bd_ H; obtain ⟨t4, a0, H⟩ := H; revert H; refine iteB_ (fun G H => ?g8p) (fun G H => ?g8n)
        case' g8p =>
         subst G; replace H := bd_ H; obtain ⟨t5, a1, H⟩ := H; obtain rfl := si_ H
        case' g8n =>
         subst G; obtain rfl := si_ H
       case' g7n =>
        revert H; refine iteEF_ (fun I J H => ?g9p) (fun c13 I J H => ?g9n)
        case' g9p =>
         replace H := bd_ H; obtain ⟨t4, a2, H⟩ := H; obtain rfl := si_ H
        case' g9n =>
         obtain rfl := si_ H
      all_goals
       go_wp2_with (first | ((with_reducible refine gate_callee (f := 159) rfl ?_); refine gL _ Tryz.func159 _ ((safe_all.calls o 161 _ _ Z.out).mono ?_); rintro e w' ⟨rfl, ⟨nd, rfl⟩⟩; refine ⟨_, rfl, ?_⟩) | ((with_reducible refine gate_callee (f := 159) rfl ?_); refine gL _ Tryz.func159 _ ((safe_all.calls o 160 _ _ a0.out).mono ?_); rintro e w' ⟨rfl, ⟨nd, rfl⟩⟩; refine ⟨_, rfl, ?_⟩) | (go_at_call 162; (with_reducible refine (safe_isForm.calls y o _ _ ?side1 a1.out).mono ?_); (case side1 => exact ⟨lE⟩); rintro e w7a1 ⟨rfl, hb⟩; replace a := kM a hb; replace HB := bS bE hb; (try clear hb)) | ((with_reducible refine gate_callee (f := 163) rfl ?_); refine gL _ Tryz.func163 _ ((safe_Range.calls y o _ _ ?side1 a2.out).mono ?_); (case side1 => exact ⟨lE⟩); rintro e w' ⟨rfl, ⟨nd, rfl⟩⟩; refine ⟨_, rfl, ?_⟩)); go_ret; exact ⟨rE, bE⟩
end Go.Proofs.YtfmajangcbgooaaGreatDoor.Pr

