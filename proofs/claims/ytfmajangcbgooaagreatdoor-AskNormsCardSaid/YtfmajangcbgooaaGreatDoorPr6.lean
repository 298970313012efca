-- Made by a program of this session (wip/xp/xp.py), over the print's words.
import Derived.Test.YtfmajangcbgooaaGreatDoorPr0
import Derived.Test.YtfmajangcbgooaaGreatDoorK0
import Derived.Test.YtfmajangcbgooaaGreatDoorPr5
import Derived.Test.YtfmajangcbgooaaGreatDoorG1
import Derived.Test.YtfmajangcbgooaaGreatDoorG4
import Derived.Test.YtfmajangcbgooaaGreatDoorG5
namespace Go.Proofs.YtfmajangcbgooaaGreatDoor.Pr
open Go.RowKit Go.Proofs.YtfmajangcbgooaaGreatDoorW.PrintWords Go.Proofs.YtfmajangcbgooaaGreatDoorW.PrintLast Go.Proofs.YtfmajangcbgooaaGreatDoorW.PrintMore
attribute [local go_sem] max2_int min2_int max_two min_two max_three min_three max_four min_four   -- for this text's walks alone
set_option linter.unusedVariables false
set_option linter.unusedSimpArgs false

/-! ### origin_isHost: function 145 -/
def origin_isHost.l0 : Nat → List ByteArray → Int → Int → Option (Bool)
 | 0, _, _, _ => none
 | k + 1, x9, x10, x11 => if x11 < x10 then (if 0 ≤ x11 then (if x11 < (x9.length : Int) then ((origin_isLabel.f k (rdOf ByteArray.empty x9 x11)).bind fun t108 => (if t108 = true then (origin_isHost.l0 k x9 x10 (wrap64 (x11 + 1))) else (some false))) else (none)) else (none)) else (some true)
def origin_isHost.f (k : Nat) (a0 : ByteArray) : Option (Bool) := if (a0.size : Int) > 253 then (some false) else ((strings_Split.f a0 (⟨#[46]⟩ : ByteArray)).bind fun t104 => (origin_isHost.l0 k t104 (t104.length : Int) 0))
theorem origin_isHost.mono_l : ∀ k, (∀ y0 y1 y2, LeO (origin_isHost.l0 k y0 y1 y2) (origin_isHost.l0 (k + 1) y0 y1 y2))
 | 0 => fun _ _ _ r h => by simp [origin_isHost.l0] at h
 | k + 1 => by
  have ih0 := origin_isHost.mono_l k
  ·intros
   have hm0 := @origin_isLabel.mono; unfold origin_isHost.l0
   exact moE

theorem origin_isHost.mono : ∀ a0 k, LeO (origin_isHost.f k a0) (origin_isHost.f (k + 1) a0) := by
 intro a0 k
 have ih0 := origin_isHost.mono_l k
 have hm0 := @origin_isLabel.mono; unfold origin_isHost.f
 exact moE

set_option maxHeartbeats 8000000 in
set_option maxRecDepth 100000 in
theorem origin_isHost.calls (k : Nat) (a0 : ByteArray) (r : Bool) (w : World) (h : origin_isHost.f k a0 = some r) :
  Calls Tryz.prog 145 #[.string a0] w fun e w' => e = .returned (.bool r) ∧ Below w.heap.size w w' := by
 have HB := Aside0.mk (Below.refl w.heap.size w)
 have H : (if (a0.size : Int) > 253 then (some false) else ((strings_Split.f a0 (⟨#[46]⟩ : ByteArray)).bind fun t1 => (origin_isHost.l0 k t1 (t1.length : Int) 0))) = some r := h
 clear h
 refine em_ ((a0.size : Int) > 253) (fun c1 => ?g1p) (fun c1 => ?g1n)
 case' g1p =>
  rw [if_pos c1] at H
  have c1b0 : decide (253 < (a0.size : Int)) = true := decide_eq_true c1
  have c1b1 : decide (253 < a0.size) = true := decide_eq_true (by omega)
  clear c1
  obtain rfl := si_ H
  have M2_0 := trivial
 case' g1n =>
  rw [if_neg c1] at H
  have c1b0 : decide (253 < (a0.size : Int)) = false := decide_eq_false c1
  have c1b1 : decide (253 < a0.size) = false := decide_eq_false (by omega)
  clear c1
  replace H := bd_ H; obtain ⟨t1, A2, H⟩ := H
  have H' := Aside0.mk H
  clear H
  have M2_1 := trivial
 all_goals
  go_enter Tryz.func145, Tryz.ntmps145
  go_wp2_with (first | ((with_reducible refine gate_callee (f := 142) rfl ?_); refine gL (some 9) Tryz.func142 #[.string a0, .string (⟨#[46]⟩ : ByteArray)] ?_; (with_reducible refine (strings_Split.calls a0 (⟨#[46]⟩ : ByteArray) _ _ A2.out).mono ?_); rintro e w1a1 ⟨v1a2, rfl, ho1a3, hb⟩; refine ⟨_, rfl, ?_⟩; have n0_ := Aside0.mk (Kd.R_lower ho1a3 (below_size bE)); have n1_ := bS bE hb; clear HB; have HO1a4 := n0_; have HB := n1_; clear n0_ n1_; (try clear hb); (try clear hb1); (try clear hk); (try clear hi); (try clear ho1a3); obtain ⟨Ao1a5, co1a5, eo1a5⟩ := Kd.R_slice HO1a4.out; subst eo1a5))
  first
  | clear M2_0
    go_ret
    exact ⟨rE, bE⟩
  | clear M2_1
    go_loopg [11] k (fun kq v3s1 w' => ∃ (x11_1 : Int), v3s1 = .int .i64 x11_1 ∧ Aside0 (origin_isHost.l0 kq t1 (t1.length : Int) x11_1 = some r) ∧ Aside0 (kq ≤ k) ∧ Aside0 (Kd.R Kd.string 9 w' w.heap.size (fun _ => True) (.slice Ao1a5 t1.length co1a5) t1) ∧ Aside0 (Below w.heap.size w w'))
    case atStart => exact ⟨(0), rS, H', ⟨Nat.le_refl _⟩, ⟨by (with_reducible repeat (first | apply Kd.R_alloc | apply Kd.R_drewN | apply Kd.R_drew)); exact HO1a4.out⟩, ⟨bE⟩⟩
    case round =>
     clear H'
     try clear c1
     try clear c1b0
     try clear c1b1
     obtain ⟨x11_1, rfl, HA, HK1, HO_9, HB⟩ := hrel
     cases gk with
     | zero => exact absurd HA.out (by simp [origin_isHost.l0])
     | succ k1 =>
      have H := HA.out
      clear HA
      simp only [origin_isHost.l0] at H
      refine em_ (x11_1 < (t1.length : Int)) (fun c4 => ?g3p) (fun c4 => ?g3n)
      case' g3p =>
       rw [if_pos c4] at H
       have c4b0 : decide (x11_1 < (t1.length : Int)) = true := decide_eq_true c4
       clear c4
       replace H := iteN_ H; obtain ⟨c5, H⟩ := H
       have c5b0 : decide (0 ≤ x11_1) = true := decide_eq_true c5
       clear c5
       replace H := iteN_ H; obtain ⟨c6, H⟩ := H
       have c6b0 : decide (x11_1 < (t1.length : Int)) = true := decide_eq_true c6
       clear c6
       replace H := bd_ H; obtain ⟨t2, A7, H⟩ := H
       refine em_ (t2 = true) (fun c8 => ?g4p) (fun c8 => ?g4n)
       case' g4p =>
        subst c8
        replace H := ifT_ H
        have H' := Aside0.mk H
        clear H
        have p9 : 0 ≤ (x11_1 : Int) := of_decide_eq_true mE
        have q9 : x11_1 < (t1.length : Int) := of_decide_eq_true mE
        obtain ⟨ad9, e3, hx9_0⟩ := Kd.at_string (Kd.R_reads' HO_9.out).2.2 x11_1 p9 q9
        cases e3
        replace p9 := eq_true p9
        replace q9 := eq_true q9
        have M5_0 := trivial
       case' g4n =>
        replace c8 := Bool.eq_false_iff.mpr c8
        subst c8
        replace H := ifF_ H
        obtain rfl := si_ H
        have p9 : 0 ≤ (x11_1 : Int) := of_decide_eq_true mE
        have q9 : x11_1 < (t1.length : Int) := of_decide_eq_true mE
        obtain ⟨ad9, e3, hx9_0⟩ := Kd.at_string (Kd.R_reads' HO_9.out).2.2 x11_1 p9 q9
        cases e3
        replace p9 := eq_true p9
        replace q9 := eq_true q9
        have M5_1 := trivial
      case' g3n =>
       rw [if_neg c4] at H
       have c4b0 : decide (x11_1 < (t1.length : Int)) = false := decide_eq_false c4
       clear c4
       obtain rfl := si_ H
       have M5_1 := trivial
      all_goals
       go_wp2_with (first | ((with_reducible refine gate_callee (f := 182) rfl ?_); refine gL (some 16) Tryz.func182 #[.string (rdOf ByteArray.empty t1 x11_1)] ?_; (with_reducible refine (origin_isLabel.calls k1 (rdOf ByteArray.empty t1 x11_1) _ _ A7.out).mono ?_); rintro e w' ⟨rfl, ⟨nd, rfl⟩⟩; refine ⟨_, rfl, ?_⟩))
       first
       | clear M5_0
         go_roundg k1
         case measure => have := HK1.out; omega
         case rel => exact ⟨(wrap64 (x11_1 + 1)), rS, H', ⟨by have := HK1.out; omega⟩, ⟨by (with_reducible repeat (first | apply Kd.R_alloc | apply Kd.R_drewN | apply Kd.R_drew)); exact HO_9.out⟩, ⟨bE⟩⟩
       | clear M5_1
         go_ret
         exact ⟨rE, bE⟩

/-! ### origin_Check: function 98 -/
def origin_Check.f (k : Nat) (a0_0 : ByteArray) (a0_1 : ByteArray) (a0_2 : Int) : Option (Bool) := (origin_Default.f a0_0).bind fun t110 => (if t110 = 0 then (some false) else ((origin_isHost.f k a0_1).bind fun t111 => (if t111 = true then (if a0_2 ≥ 1 then (some (decide (a0_2 ≤ 65535))) else (some false)) else (some false))))
theorem origin_Check.mono : ∀ a0 a1 a2 k, LeO (origin_Check.f k a0 a1 a2) (origin_Check.f (k + 1) a0 a1 a2) := by
 intro a0 a1 a2 k
 have hm0 := @origin_isHost.mono; unfold origin_Check.f
 exact moE

set_option maxHeartbeats 8000000 in
set_option maxRecDepth 100000 in
theorem origin_Check.calls (k : Nat) (a0_0 : ByteArray) (a0_1 : ByteArray) (a0_2 : Int) (r : Bool) (w : World) (h : origin_Check.f k a0_0 a0_1 a0_2 = some r) :
  Calls Tryz.prog 98 #[.agg #[.string a0_0, .string a0_1, .int .i64 a0_2]] w fun e w' => e = .returned (.bool r) ∧ Below w.heap.size w w' := by
 have hu70 := Tryz.underlying70
 have HB := Aside0.mk (Below.refl w.heap.size w)
 have H : ((origin_Default.f a0_0).bind fun t1 => (if t1 = 0 then (some false) else ((origin_isHost.f k a0_1).bind fun t2 => (if t2 = true then (if a0_2 ≥ 1 then (some (decide (a0_2 ≤ 65535))) else (some false)) else (some false))))) = some r := h
 clear h
 replace H := bd_ H; obtain ⟨t1, A1, H⟩ := H
 refine em_ (t1 = 0) (fun c2 => ?g1p) (fun c2 => ?g1n)
 case' g1p =>
  rw [if_pos c2] at H
  have c2b0 : (t1 == 0) = true := beq_iff_eq.mpr c2
  have c2b1 : (t1 != 0) = false := bne_eq_false_iff_eq.mpr c2
  clear c2
  obtain rfl := si_ H
 case' g1n =>
  rw [if_neg c2] at H
  have c2b0 : (t1 == 0) = false := beq_eq_false_iff_ne.mpr c2
  have c2b1 : (t1 != 0) = true := bne_iff_ne.mpr c2
  replace H := bd_ H; obtain ⟨t2, A3, H⟩ := H
  refine em_ (t2 = true) (fun c4 => ?g2p) (fun c4 => ?g2n)
  case' g2p =>
   subst c4
   replace H := ifT_ H
   refine em_ (a0_2 ≥ 1) (fun c5 => ?g3p) (fun c5 => ?g3n)
   case' g3p =>
    rw [if_pos c5] at H
    have c5b0 : decide (1 ≤ a0_2) = true := decide_eq_true c5
    clear c5
    obtain rfl := si_ H
   case' g3n =>
    rw [if_neg c5] at H
    have c5b0 : decide (1 ≤ a0_2) = false := decide_eq_false c5
    clear c5
    obtain rfl := si_ H
  case' g2n =>
   replace c4 := Bool.eq_false_iff.mpr c4
   subst c4
   replace H := ifF_ H
   obtain rfl := si_ H
 all_goals
  go_enter Tryz.func98, Tryz.ntmps98
  go_wp2_with (first | ((with_reducible refine gate_dst (N := 1) rfl ?_); refine bxE (N := 1) (cs := #[.string a0_0, .string a0_1, .int .i64 a0_2]) (t := 70) fun gb1a1 hg w1a2 hbox hb => ?_; obtain ⟨HB', BK1a1, GW1a1⟩ := bx_ bE hg hbox hb; have GE1a1 := GW1a1; clear HB hb hbox hg; have HB := HB'; clear HB'; obtain ⟨z1a3_0, z1a3_1, z1a3_2, zf1a3_0, zf1a3_1, zf1a3_2⟩ := bk3_ BK1a1) | ((with_reducible refine gate_callee (f := 96) rfl ?_); refine gL (some 5) Tryz.func96 #[.string a0_0] ?_; (with_reducible refine (origin_Default.calls a0_0 _ _ A1.out).mono ?_); rintro e w' ⟨rfl, ⟨nd, rfl⟩⟩; refine ⟨_, rfl, ?_⟩) | (go_at_call 145; (with_reducible refine (origin_isHost.calls k a0_1 _ _ A3.out).mono ?_); rintro e w3a1 ⟨rfl, hb⟩; replace BK1a1 := kM BK1a1 hb; replace HB := bS bE hb; (try clear hb); obtain ⟨z3a2_0, z3a2_1, z3a2_2, zf3a2_0, zf3a2_1, zf3a2_2⟩ := bk3_ BK1a1))
  go_ret
  exact ⟨rE, bE⟩

/-! ### origin_Parse: function 46 -/
def origin_Parse.f (k : Nat) (a0 : ByteArray) : Option (ByteArray × ByteArray × Int × Int) := if (a0.size : Int) > 512 then (some ((⟨#[]⟩ : ByteArray), (⟨#[]⟩ : ByteArray), 0, 4)) else ((octet_Lower.f a0).bind fun t113 => ((strings_Cut.f t113 (⟨#[58, 47, 47]⟩ : ByteArray)).bind fun bt114 => (if bt114.2.2 = true then ((strings_Cut.f bt114.2.1 (⟨#[58]⟩ : ByteArray)).bind fun bt117 => ((origin_Default.f bt114.1).bind fun t120 => (if bt117.2.2 = true then ((origin_port.f k bt117.2.1).bind fun t122 => ((origin_Check.f k bt114.1 bt117.1 t122).bind fun t123 => (if t123 = true then (some (bt114.1, bt117.1, t122, 0)) else (some ((⟨#[]⟩ : ByteArray), (⟨#[]⟩ : ByteArray), 0, 3))))) else ((origin_Check.f k bt114.1 bt117.1 t120).bind fun t124 => (if t124 = true then (some (bt114.1, bt117.1, t120, 0)) else (some ((⟨#[]⟩ : ByteArray), (⟨#[]⟩ : ByteArray), 0, 3))))))) else (some ((⟨#[]⟩ : ByteArray), (⟨#[]⟩ : ByteArray), 0, 3)))))
theorem origin_Parse.mono : ∀ a0 k, LeO (origin_Parse.f k a0) (origin_Parse.f (k + 1) a0) := by
 intro a0 k
 have hm0 := @origin_Check.mono; have hm1 := @origin_port.mono; unfold origin_Parse.f
 exact moE

set_option maxHeartbeats 8000000 in
set_option maxRecDepth 100000 in
theorem origin_Parse.calls (k : Nat) (a0 : ByteArray) (r1 : ByteArray) (r2 : ByteArray) (r3 : Int) (r4 : Int) (w : World) (hM_ : Aside0 (LaidW w)) (h : origin_Parse.f k a0 = some (r1, r2, r3, r4)) :
  Calls Tryz.prog 46 #[.string a0] w fun e w' => e = .returned (.tuple #[.agg #[.string r1, .string r2, .int .i64 r3], .int .i64 r4]) ∧ Below w.heap.size w w' := by
 have hu70 := Tryz.underlying70
 have HB := Aside0.mk (Below.refl w.heap.size w)
 have H : (if (a0.size : Int) > 512 then (some ((⟨#[]⟩ : ByteArray), (⟨#[]⟩ : ByteArray), 0, 4)) else ((octet_Lower.f a0).bind fun t1 => ((strings_Cut.f t1 (⟨#[58, 47, 47]⟩ : ByteArray)).bind fun bt2 => (if bt2.2.2 = true then ((strings_Cut.f bt2.2.1 (⟨#[58]⟩ : ByteArray)).bind fun bt3 => ((origin_Default.f bt2.1).bind fun t4 => (if bt3.2.2 = true then ((origin_port.f k bt3.2.1).bind fun t5 => ((origin_Check.f k bt2.1 bt3.1 t5).bind fun t6 => (if t6 = true then (some (bt2.1, bt3.1, t5, 0)) else (some ((⟨#[]⟩ : ByteArray), (⟨#[]⟩ : ByteArray), 0, 3))))) else ((origin_Check.f k bt2.1 bt3.1 t4).bind fun t7 => (if t7 = true then (some (bt2.1, bt3.1, t4, 0)) else (some ((⟨#[]⟩ : ByteArray), (⟨#[]⟩ : ByteArray), 0, 3))))))) else (some ((⟨#[]⟩ : ByteArray), (⟨#[]⟩ : ByteArray), 0, 3)))))) = some (r1, r2, r3, r4) := h
 clear h
 refine em_ ((a0.size : Int) > 512) (fun c1 => ?g1p) (fun c1 => ?g1n)
 case' g1p =>
  rw [if_pos c1] at H
  have c1b0 : decide (512 < (a0.size : Int)) = true := decide_eq_true c1
  have c1b1 : decide (512 < a0.size) = true := decide_eq_true (by omega)
  clear c1
  simp only [Option.some.injEq, Prod.mk.injEq] at H
  obtain ⟨rfl, rfl, rfl, rfl⟩ := H
  have M10_0 := trivial
 case' g1n =>
  rw [if_neg c1] at H
  have c1b0 : decide (512 < (a0.size : Int)) = false := decide_eq_false c1
  have c1b1 : decide (512 < a0.size) = false := decide_eq_false (by omega)
  clear c1
  replace H := bd_ H; obtain ⟨t1, A2, H⟩ := H
  replace H := bd_ H; obtain ⟨⟨t2, t8, t9⟩, A3, H⟩ := H
  replace H : (if t9 = true then ((strings_Cut.f t8 (⟨#[58]⟩ : ByteArray)).bind fun bt3 => ((origin_Default.f t2).bind fun t4 => (if bt3.2.2 = true then ((origin_port.f k bt3.2.1).bind fun t5 => ((origin_Check.f k t2 bt3.1 t5).bind fun t6 => (if t6 = true then (some (t2, bt3.1, t5, 0)) else (some ((⟨#[]⟩ : ByteArray), (⟨#[]⟩ : ByteArray), 0, 3))))) else ((origin_Check.f k t2 bt3.1 t4).bind fun t7 => (if t7 = true then (some (t2, bt3.1, t4, 0)) else (some ((⟨#[]⟩ : ByteArray), (⟨#[]⟩ : ByteArray), 0, 3))))))) else (some ((⟨#[]⟩ : ByteArray), (⟨#[]⟩ : ByteArray), 0, 3))) = some (r1, r2, r3, r4) := H
  refine em_ (t9 = true) (fun c4 => ?g2p) (fun c4 => ?g2n)
  case' g2p =>
   subst c4
   replace H := ifT_ H
   replace H := bd_ H; obtain ⟨⟨t3, t10, t11⟩, A5, H⟩ := H
   replace H : ((origin_Default.f t2).bind fun t4 => (if t11 = true then ((origin_port.f k t10).bind fun t5 => ((origin_Check.f k t2 t3 t5).bind fun t6 => (if t6 = true then (some (t2, t3, t5, 0)) else (some ((⟨#[]⟩ : ByteArray), (⟨#[]⟩ : ByteArray), 0, 3))))) else ((origin_Check.f k t2 t3 t4).bind fun t7 => (if t7 = true then (some (t2, t3, t4, 0)) else (some ((⟨#[]⟩ : ByteArray), (⟨#[]⟩ : ByteArray), 0, 3)))))) = some (r1, r2, r3, r4) := H
   replace H := bd_ H; obtain ⟨t4, A6, H⟩ := H
   refine em_ (t11 = true) (fun c7 => ?g3p) (fun c7 => ?g3n)
   case' g3p =>
    subst c7
    replace H := ifT_ H
    replace H := bd_ H; obtain ⟨t5, A8, H⟩ := H
    replace H := bd_ H; obtain ⟨t6, A9, H⟩ := H
    refine em_ (t6 = true) (fun c10 => ?g4p) (fun c10 => ?g4n)
    case' g4p =>
     subst c10
     replace H := ifT_ H
     simp only [Option.some.injEq, Prod.mk.injEq] at H
     obtain ⟨rfl, rfl, rfl, rfl⟩ := H
     have G6 := trivial; have M10_1 := trivial
    case' g4n =>
     replace c10 := Bool.eq_false_iff.mpr c10
     subst c10
     replace H := ifF_ H
     simp only [Option.some.injEq, Prod.mk.injEq] at H
     obtain ⟨rfl, rfl, rfl, rfl⟩ := H
     have G7 := trivial; have M10_0 := trivial
   case' g3n =>
    replace c7 := Bool.eq_false_iff.mpr c7
    subst c7
    replace H := ifF_ H
    replace H := bd_ H; obtain ⟨t7, A8, H⟩ := H
    refine em_ (t7 = true) (fun c9 => ?g5p) (fun c9 => ?g5n)
    case' g5p =>
     subst c9
     replace H := ifT_ H
     simp only [Option.some.injEq, Prod.mk.injEq] at H
     obtain ⟨rfl, rfl, rfl, rfl⟩ := H
     have G8 := trivial; have M10_2 := trivial
    case' g5n =>
     replace c9 := Bool.eq_false_iff.mpr c9
     subst c9
     replace H := ifF_ H
     simp only [Option.some.injEq, Prod.mk.injEq] at H
     obtain ⟨rfl, rfl, rfl, rfl⟩ := H
     have G9 := trivial; have M10_0 := trivial
  case' g2n =>
   replace c4 := Bool.eq_false_iff.mpr c4
   subst c4
   replace H := ifF_ H
   simp only [Option.some.injEq, Prod.mk.injEq] at H
   obtain ⟨rfl, rfl, rfl, rfl⟩ := H
   have M10_0 := trivial
 all_goals
  go_enter Tryz.func46, Tryz.ntmps46
  go_wp2_with (first | ((with_reducible refine gate_dst (N := 2) rfl ?_); refine bxE (N := 2) (cs := #[.string (⟨#[]⟩ : ByteArray), .string (⟨#[]⟩ : ByteArray), .int .i64 0]) (t := 70) fun gb1a1 hg w1a2 hbox hb => ?_; obtain ⟨HB', BK1a1, GW1a1⟩ := bx_ bE hg hbox hb; have GE1a1 := GW1a1; clear HB hb hbox hg; have HB := HB'; clear HB'; obtain ⟨z1a3_0, z1a3_1, z1a3_2, zf1a3_0, zf1a3_1, zf1a3_2⟩ := bk3_ BK1a1) | ((with_reducible refine gate_callee (f := 95) rfl ?_); refine gL (some 17) Tryz.func95 #[.string a0] ?_; (with_reducible refine (octet_Lower.calls a0 _ _ A2.out).mono ?_); rintro e w2a1 ⟨rfl, hb⟩; refine ⟨_, rfl, ?_⟩; replace BK1a1 := kM BK1a1 hb; replace HB := bS bE hb; (try clear hb)) | ((with_reducible refine gate_callee (f := 90) rfl ?_); refine gL (some 18) Tryz.func90 #[.string t1, .string (⟨#[58, 47, 47]⟩ : ByteArray)] ?_; (with_reducible refine (strings_Cut.calls t1 (⟨#[58, 47, 47]⟩ : ByteArray) t2 t8 _ _ ?side1 A3.out).mono ?_); (case side1 => exact ⟨lE⟩); rintro e w' ⟨rfl, ⟨nd, rfl⟩⟩; refine ⟨_, rfl, ?_⟩; (try (rw [drewN_self w2a1]; generalize hq_ : World.drewN w2a1 _ = w2a1; have n0_ : Aside0 (w2a1.heap[gb1a1]? = some (.cells #[.string (⟨#[]⟩ : ByteArray), .string (⟨#[]⟩ : ByteArray), .int .i64 0] 70 (0, 0))) := ⟨by rw [← hq_]; exact (kC BK1a1)⟩; have n1_ : Aside0 (Below w.heap.size w w2a1) := ⟨by rw [← hq_]; exact bE⟩; clear BK1a1 HB hq_; have BK1a1 := n0_; have HB := n1_; clear n0_ n1_)); obtain ⟨z3a1_0, z3a1_1, z3a1_2, zf3a1_0, zf3a1_1, zf3a1_2⟩ := bk3_ BK1a1) | ((with_reducible refine gate_callee (f := 90) rfl ?_); refine gL (some 27) Tryz.func90 #[.string t8, .string (⟨#[58]⟩ : ByteArray)] ?_; (with_reducible refine (strings_Cut.calls t8 (⟨#[58]⟩ : ByteArray) t3 t10 _ _ ?side1 A5.out).mono ?_); (case side1 => exact ⟨lE⟩); rintro e w' ⟨rfl, ⟨nd, rfl⟩⟩; refine ⟨_, rfl, ?_⟩; (try (rw [drewN_self w2a1]; generalize hq_ : World.drewN w2a1 _ = w2a1; have n0_ : Aside0 (w2a1.heap[gb1a1]? = some (.cells #[.string (⟨#[]⟩ : ByteArray), .string (⟨#[]⟩ : ByteArray), .int .i64 0] 70 (0, 0))) := ⟨by rw [← hq_]; exact (kC BK1a1)⟩; have n1_ : Aside0 (Below w.heap.size w w2a1) := ⟨by rw [← hq_]; exact bE⟩; clear BK1a1 HB hq_; have BK1a1 := n0_; have HB := n1_; clear n0_ n1_))) | ((with_reducible refine gate_callee (f := 96) rfl ?_); refine gL (some 34) Tryz.func96 #[.string t2] ?_; (with_reducible refine (origin_Default.calls t2 _ _ A6.out).mono ?_); rintro e w' ⟨rfl, ⟨nd, rfl⟩⟩; refine ⟨_, rfl, ?_⟩; (try (rw [drewN_self w2a1]; generalize hq_ : World.drewN w2a1 _ = w2a1; have n0_ : Aside0 (w2a1.heap[gb1a1]? = some (.cells #[.string (⟨#[]⟩ : ByteArray), .string (⟨#[]⟩ : ByteArray), .int .i64 0] 70 (0, 0))) := ⟨by rw [← hq_]; exact (kC BK1a1)⟩; have n1_ : Aside0 (Below w.heap.size w w2a1) := ⟨by rw [← hq_]; exact bE⟩; clear BK1a1 HB hq_; have BK1a1 := n0_; have HB := n1_; clear n0_ n1_))) | ((with_reducible refine gate_dst (N := 10) rfl ?_); refine bxE (N := 10) (cs := #[.string (⟨#[]⟩ : ByteArray), .string (⟨#[]⟩ : ByteArray), .int .i64 0]) (t := 70) fun gb6a1 hg w6a2 hbox hb => ?_; have BK6a1 := Aside0.mk (hbox); have GW6a1 := sE (w := w) hg; have GE6a1 := sE (w := w) hg; have NB1a1_6a1 := neL BK1a1 hg; have NB6a1_1a1 := neG BK1a1 hg; replace BK1a1 := kM BK1a1 hb; replace HB := bS bE hb; clear hb hbox hg; have hnb6a3 := NB6a1_1a1.out; have hnc6a3 := NB1a1_6a1.out; obtain ⟨z6a4_0, z6a4_1, z6a4_2, zf6a4_0, zf6a4_1, zf6a4_2⟩ := bk3_ BK6a1) | ((with_reducible refine gate_callee (f := 97) rfl ?_); refine gL (some 38) Tryz.func97 #[.string t10] ?_; (with_reducible refine (origin_port.calls k t10 _ _ A8.out).mono ?_); rintro e w7a1 ⟨rfl, hb⟩; refine ⟨_, rfl, ?_⟩; have n0_ := kF BK1a1 hb; have n1_ := Aside0.mk (blk_below (g := gb6a1) (o := .cells #[.string t2, .string t3, .int .i64 t4] 70 (0, 0)) (kT) hb); have n2_ := bS bE hb; clear BK1a1; clear BK6a1; clear HB; have BK1a1 := n0_; have BK6a1 := n1_; have HB := n2_; clear n0_ n1_ n2_; (try clear hb); (try clear hb1); (try clear hk); (try clear hi); obtain ⟨z7a2_0, z7a2_1, z7a2_2, zf7a2_0, zf7a2_1, zf7a2_2⟩ := bk3_ BK6a1) | (have z_ := G6; clear z_; ((with_reducible refine gate_callee (f := 98) rfl ?_); refine gL (some 41) Tryz.func98 #[.agg #[.string t2, .string t3, .int .i64 t5]] ?_; (with_reducible refine (origin_Check.calls k t2 t3 t5 _ _ A9.out).mono ?_); rintro e w8a1 ⟨rfl, hb⟩; refine ⟨_, rfl, ?_⟩; have n0_ := kF BK1a1 hb; have n1_ := Aside0.mk (blk_below (g := gb6a1) (o := .cells #[.string t2, .string t3, .int .i64 t5] 70 (0, 0)) (kT) hb); have n2_ := bS bE hb; clear BK1a1; clear BK6a1; clear HB; have BK1a1 := n0_; have BK6a1 := n1_; have HB := n2_; clear n0_ n1_ n2_; (try clear hb); (try clear hb1); (try clear hk); (try clear hi); obtain ⟨z8a2_0, z8a2_1, z8a2_2, zf8a2_0, zf8a2_1, zf8a2_2⟩ := bk3_ BK6a1; obtain ⟨z8a3_0, z8a3_1, z8a3_2, zf8a3_0, zf8a3_1, zf8a3_2⟩ := bk3_ BK1a1)) | (have z_ := G7; clear z_; ((with_reducible refine gate_callee (f := 98) rfl ?_); refine gL (some 41) Tryz.func98 #[.agg #[.string t2, .string t3, .int .i64 t5]] ?_; (with_reducible refine (origin_Check.calls k t2 t3 t5 _ _ A9.out).mono ?_); rintro e w8a1 ⟨rfl, hb⟩; refine ⟨_, rfl, ?_⟩; have n0_ := kF BK1a1 hb; have n1_ := Aside0.mk (blk_below (g := gb6a1) (o := .cells #[.string t2, .string t3, .int .i64 t5] 70 (0, 0)) (kT) hb); have n2_ := bS bE hb; clear BK1a1; clear BK6a1; clear HB; have BK1a1 := n0_; have BK6a1 := n1_; have HB := n2_; clear n0_ n1_ n2_; (try clear hb); (try clear hb1); (try clear hk); (try clear hi); obtain ⟨z8a2_0, z8a2_1, z8a2_2, zf8a2_0, zf8a2_1, zf8a2_2⟩ := bk3_ BK1a1)) | (have z_ := G8; clear z_; ((with_reducible refine gate_callee (f := 98) rfl ?_); refine gL (some 41) Tryz.func98 #[.agg #[.string t2, .string t3, .int .i64 t4]] ?_; (with_reducible refine (origin_Check.calls k t2 t3 t4 _ _ A8.out).mono ?_); rintro e w9a1 ⟨rfl, hb⟩; refine ⟨_, rfl, ?_⟩; have n0_ := kF BK1a1 hb; have n1_ := Aside0.mk (blk_below (g := gb6a1) (o := .cells #[.string t2, .string t3, .int .i64 t4] 70 (0, 0)) (kT) hb); have n2_ := bS bE hb; clear BK1a1; clear BK6a1; clear HB; have BK1a1 := n0_; have BK6a1 := n1_; have HB := n2_; clear n0_ n1_ n2_; (try clear hb); (try clear hb1); (try clear hk); (try clear hi); obtain ⟨z9a2_0, z9a2_1, z9a2_2, zf9a2_0, zf9a2_1, zf9a2_2⟩ := bk3_ BK6a1; obtain ⟨z9a3_0, z9a3_1, z9a3_2, zf9a3_0, zf9a3_1, zf9a3_2⟩ := bk3_ BK1a1)) | (have z_ := G9; clear z_; ((with_reducible refine gate_callee (f := 98) rfl ?_); refine gL (some 41) Tryz.func98 #[.agg #[.string t2, .string t3, .int .i64 t4]] ?_; (with_reducible refine (origin_Check.calls k t2 t3 t4 _ _ A8.out).mono ?_); rintro e w9a1 ⟨rfl, hb⟩; refine ⟨_, rfl, ?_⟩; have n0_ := kF BK1a1 hb; have n1_ := Aside0.mk (blk_below (g := gb6a1) (o := .cells #[.string t2, .string t3, .int .i64 t4] 70 (0, 0)) (kT) hb); have n2_ := bS bE hb; clear BK1a1; clear BK6a1; clear HB; have BK1a1 := n0_; have BK6a1 := n1_; have HB := n2_; clear n0_ n1_ n2_; (try clear hb); (try clear hb1); (try clear hk); (try clear hi); obtain ⟨z9a2_0, z9a2_1, z9a2_2, zf9a2_0, zf9a2_1, zf9a2_2⟩ := bk3_ BK1a1)))
  first
  | clear M10_0
    refine bodyPost_ret (results_ct rfl _ _ gb1a1 70 #[.string (⟨#[]⟩ : ByteArray), .string (⟨#[]⟩ : ByteArray), .int .i64 0] (0, 0) _ rfl (kT) Tryz.underlying70 rfl (by kernel_rfl)) rfl ?_
    exact ⟨rE, bE⟩
  | clear M10_1
    refine bodyPost_ret (results_ct rfl _ _ gb1a1 70 #[.string t2, .string t3, .int .i64 t5] (0, 0) _ rfl (kT) Tryz.underlying70 rfl (by kernel_rfl)) rfl ?_
    exact ⟨rE, bE⟩
  | clear M10_2
    refine bodyPost_ret (results_ct rfl _ _ gb1a1 70 #[.string t2, .string t3, .int .i64 t4] (0, 0) _ rfl (kT) Tryz.underlying70 rfl (by kernel_rfl)) rfl ?_
    exact ⟨rE, bE⟩

/-! ### target_all: function 92 -/
def target_all.l0 : Nat → ByteArray → ByteArray → Int → Int → Option (Bool)
 | 0, _, _, _, _ => none
 | k + 1, x0, x1, x7, x8 => if x8 < x7 then (if 0 ≤ x8 then (if x8 < (x0.size : Int) then (if (bt x0 x8) < 33 then (some false) else (if (bt x0 x8) > 126 then (some false) else ((strings_IndexByte.f x1 (bt x0 x8)).bind fun t125 => (if t125 ≥ 0 then (some false) else (target_all.l0 k x0 x1 x7 (wrap64 (x8 + 1))))))) else (none)) else (none)) else (some true)
def target_all.f (k : Nat) (a0 : ByteArray) (a1 : ByteArray) : Option (Bool) := target_all.l0 k a0 a1 (a0.size : Int) 0
theorem target_all.mono_l : ∀ k, (∀ y0 y1 y2 y3, LeO (target_all.l0 k y0 y1 y2 y3) (target_all.l0 (k + 1) y0 y1 y2 y3))
 | 0 => fun _ _ _ _ r h => by simp [target_all.l0] at h
 | k + 1 => by
  have ih0 := target_all.mono_l k
  ·intros
   unfold target_all.l0
   exact moE

theorem target_all.mono : ∀ a0 a1 k, LeO (target_all.f k a0 a1) (target_all.f (k + 1) a0 a1) := by
 intro a0 a1 k
 have ih0 := target_all.mono_l k
 unfold target_all.f
 exact moE

set_option maxHeartbeats 8000000 in
set_option maxRecDepth 100000 in
theorem target_all.calls (k : Nat) (a0 : ByteArray) (a1 : ByteArray) (r : Bool) (w : World) (h : target_all.f k a0 a1 = some r) :
  Calls Tryz.prog 92 #[.string a0, .string a1] w fun e w' => e = .returned (.bool r) ∧ Drawn0 w w' := by
 have H : (target_all.l0 k a0 a1 (a0.size : Int) 0) = some r := h
 clear h
 have H' := Aside0.mk H
 clear H
 go_enter Tryz.func92, Tryz.ntmps92
 go_wp2
 go_loopg [8] k (fun kq v3s1 w' => ∃ (x8_1 : Int), v3s1 = .int .i64 x8_1 ∧ Aside0 (target_all.l0 kq a0 a1 (a0.size : Int) x8_1 = some r) ∧ Aside0 (kq ≤ k) ∧ Drawn0 w w')
 case atStart => exact ⟨(0), rS, H', ⟨Nat.le_refl _⟩, by repeat (first | exact Drawn0.refl _ | apply Drawn0.step)⟩
 case round =>
  clear H'
  obtain ⟨x8_1, rfl, HA, HK1, ⟨m1, rfl⟩⟩ := hrel
  cases gk with
  | zero => exact absurd HA.out (by simp [target_all.l0])
  | succ k1 =>
   have H := HA.out
   clear HA
   simp only [target_all.l0] at H
   refine em_ (x8_1 < (a0.size : Int)) (fun c2 => ?g1p) (fun c2 => ?g1n)
   case' g1p =>
    rw [if_pos c2] at H
    have c2b0 : decide (x8_1 < (a0.size : Int)) = true := decide_eq_true c2
    clear c2
    replace H := iteN_ H; obtain ⟨c3, H⟩ := H
    have c3b0 : decide (0 ≤ x8_1) = true := decide_eq_true c3
    clear c3
    replace H := iteN_ H; obtain ⟨c4, H⟩ := H
    have c4b0 : decide (x8_1 < (a0.size : Int)) = true := decide_eq_true c4
    clear c4
    refine em_ ((bt a0 x8_1) < 33) (fun c5 => ?g2p) (fun c5 => ?g2n)
    case' g2p =>
     rw [if_pos c5] at H
     have c5b0 : decide ((bt a0 x8_1) < 33) = true := decide_eq_true c5
     clear c5
     obtain rfl := si_ H
     obtain ⟨p6, q6, hx6⟩ := btf_ (s := a0) (x := x8_1) mE mE
     have M5_0 := trivial
    case' g2n =>
     rw [if_neg c5] at H
     have c5b0 : decide ((bt a0 x8_1) < 33) = false := decide_eq_false c5
     clear c5
     refine em_ ((bt a0 x8_1) > 126) (fun c6 => ?g3p) (fun c6 => ?g3n)
     case' g3p =>
      rw [if_pos c6] at H
      have c6b0 : decide (126 < (bt a0 x8_1)) = true := decide_eq_true c6
      clear c6
      obtain rfl := si_ H
      obtain ⟨p7, q7, hx7⟩ := btf_ (s := a0) (x := x8_1) mE mE
      obtain ⟨p8, q8, hx8⟩ := btf_ (s := a0) (x := x8_1) mE mE
      have M5_0 := trivial
     case' g3n =>
      rw [if_neg c6] at H
      have c6b0 : decide (126 < (bt a0 x8_1)) = false := decide_eq_false c6
      clear c6
      replace H := bd_ H; obtain ⟨t1, A7, H⟩ := H
      refine em_ (t1 ≥ 0) (fun c8 => ?g4p) (fun c8 => ?g4n)
      case' g4p =>
       rw [if_pos c8] at H
       have c8b0 : decide (0 ≤ t1) = true := decide_eq_true c8
       clear c8
       obtain rfl := si_ H
       obtain ⟨p9, q9, hx9⟩ := btf_ (s := a0) (x := x8_1) mE mE
       obtain ⟨p10, q10, hx10⟩ := btf_ (s := a0) (x := x8_1) mE mE
       obtain ⟨p11, q11, hx11⟩ := btf_ (s := a0) (x := x8_1) mE mE
       have M5_0 := trivial
      case' g4n =>
       rw [if_neg c8] at H
       have c8b0 : decide (0 ≤ t1) = false := decide_eq_false c8
       clear c8
       have H' := Aside0.mk H
       clear H
       obtain ⟨p9, q9, hx9⟩ := btf_ (s := a0) (x := x8_1) mE mE
       obtain ⟨p10, q10, hx10⟩ := btf_ (s := a0) (x := x8_1) mE mE
       obtain ⟨p11, q11, hx11⟩ := btf_ (s := a0) (x := x8_1) mE mE
       have M5_1 := trivial
   case' g1n =>
    rw [if_neg c2] at H
    have c2b0 : decide (x8_1 < (a0.size : Int)) = false := decide_eq_false c2
    clear c2
    obtain rfl := si_ H
    have M5_0 := trivial
   all_goals
    go_wp2_with (first | (go_at_call 141; (with_reducible refine (strings_IndexByte.calls a1 (bt a0 x8_1) _ _ A7.out).mono ?_); rintro e w' ⟨rfl, ⟨nd, rfl⟩⟩))
    first
    | clear M5_0
      go_ret
      exact ⟨by first | rfl | (simp; done) | (simp [*]; done), by repeat (first | exact Drawn0.refl _ | apply Drawn0.step)⟩
    | clear M5_1
      go_roundg k1
      case measure => have := HK1.out; omega
      case rel => exact ⟨(wrap64 (x8_1 + 1)), rS, H', ⟨by have := HK1.out; omega⟩, by repeat (first | exact Drawn0.refl _ | apply Drawn0.step)⟩

/-! ### stringslite_HasPrefix: function 186 -/
def stringslite_HasPrefix.f (a0 : ByteArray) (a1 : ByteArray) : Option (Bool) := if (a0.size : Int) ≥ (a1.size : Int) then (if 0 ≤ (a1.size : Int) then (if (a1.size : Int) ≤ (a0.size : Int) then (some ((a0.extract 0 ((a1.size : Int) : Int).toNat).toList == a1.toList)) else (none)) else (none)) else (some false)
set_option maxHeartbeats 8000000 in
set_option maxRecDepth 100000 in
theorem stringslite_HasPrefix.calls (a0 : ByteArray) (a1 : ByteArray) (r : Bool) (w : World) (h : stringslite_HasPrefix.f a0 a1 = some r) :
  Calls Tryz.prog 186 #[.string a0, .string a1] w fun e w' => e = .returned (.bool r) ∧ Drawn0 w w' := by
 have H : (if (a0.size : Int) ≥ (a1.size : Int) then (if 0 ≤ (a1.size : Int) then (if (a1.size : Int) ≤ (a0.size : Int) then (some ((a0.extract 0 ((a1.size : Int) : Int).toNat).toList == a1.toList)) else (none)) else (none)) else (some false)) = some r := h
 clear h
 refine em_ ((a0.size : Int) ≥ (a1.size : Int)) (fun c1 => ?g1p) (fun c1 => ?g1n)
 case' g1p =>
  rw [if_pos c1] at H
  have c1b0 : decide ((a1.size : Int) ≤ (a0.size : Int)) = true := decide_eq_true c1
  have c1b1 : decide (a1.size ≤ a0.size) = true := decide_eq_true (Int.ofNat_le.mp c1)
  clear c1
  replace H := iteN_ H; obtain ⟨c2, H⟩ := H
  have c2b0 := eq_true c2
  have c2b1 : decide (0 ≤ (a1.size : Int)) = true := decide_eq_true c2
  clear c2
  replace H := iteN_ H; obtain ⟨c3, H⟩ := H
  have c3b0 := eq_true c3
  have c3b1 : decide ((a1.size : Int) ≤ (a0.size : Int)) = true := decide_eq_true c3
  clear c3
  obtain rfl := si_ H
 case' g1n =>
  rw [if_neg c1] at H
  have c1b0 : decide ((a1.size : Int) ≤ (a0.size : Int)) = false := decide_eq_false c1
  have c1b1 : decide (a1.size ≤ a0.size) = false := decide_eq_false (fun h => c1 (Int.ofNat_le.mpr h))
  clear c1
  obtain rfl := si_ H
 all_goals
  go_enter Tryz.func186, Tryz.ntmps186
  go_wp2
  go_ret
  exact ⟨by first | rfl | (simp; done) | (simp [*]; done), by repeat (first | exact Drawn0.refl _ | apply Drawn0.step)⟩

/-! ### stringslite_TrimPrefix: function 181 -/
def stringslite_TrimPrefix.f (a0 : ByteArray) (a1 : ByteArray) : Option (ByteArray) := (stringslite_HasPrefix.f a0 a1).bind fun t126 => (if t126 = true then (if 0 ≤ (a1.size : Int) then (if (a1.size : Int) ≤ (a0.size : Int) then (some (a0.extract ((a1.size : Int) : Int).toNat a0.size)) else (none)) else (none)) else (some a0))
set_option maxHeartbeats 8000000 in
set_option maxRecDepth 100000 in
theorem stringslite_TrimPrefix.calls (a0 : ByteArray) (a1 : ByteArray) (r : ByteArray) (w : World) (h : stringslite_TrimPrefix.f a0 a1 = some r) :
  Calls Tryz.prog 181 #[.string a0, .string a1] w fun e w' => e = .returned (.string r) ∧ Drawn0 w w' := by
 have H : ((stringslite_HasPrefix.f a0 a1).bind fun t1 => (if t1 = true then (if 0 ≤ (a1.size : Int) then (if (a1.size : Int) ≤ (a0.size : Int) then (some (a0.extract ((a1.size : Int) : Int).toNat a0.size)) else (none)) else (none)) else (some a0))) = some r := h
 clear h
 replace H := bd_ H; obtain ⟨t1, A1, H⟩ := H
 refine em_ (t1 = true) (fun c2 => ?g1p) (fun c2 => ?g1n)
 case' g1p =>
  subst c2
  replace H := ifT_ H
  replace H := iteN_ H; obtain ⟨c3, H⟩ := H
  have c3b0 := eq_true c3
  have c3b1 : decide (0 ≤ (a1.size : Int)) = true := decide_eq_true c3
  clear c3
  replace H := iteN_ H; obtain ⟨c4, H⟩ := H
  have c4b0 := eq_true c4
  have c4b1 : decide ((a1.size : Int) ≤ (a0.size : Int)) = true := decide_eq_true c4
  clear c4
  obtain rfl := si_ H
 case' g1n =>
  replace c2 := Bool.eq_false_iff.mpr c2
  subst c2
  replace H := ifF_ H
  obtain rfl := si_ H
 all_goals
  go_enter Tryz.func181, Tryz.ntmps181
  go_wp2_with (first | ((with_reducible refine gate_callee (f := 186) rfl ?_); refine gL (some 7) Tryz.func186 #[.string a0, .string a1] ?_; (with_reducible refine (stringslite_HasPrefix.calls a0 a1 _ _ A1.out).mono ?_); rintro e w' ⟨rfl, ⟨nd, rfl⟩⟩; refine ⟨_, rfl, ?_⟩))
  go_ret
  exact ⟨by first | rfl | (simp; done) | (simp [*]; done), by repeat (first | exact Drawn0.refl _ | apply Drawn0.step)⟩

/-! ### strings_TrimPrefix: function 143 -/
def strings_TrimPrefix.f (a0 : ByteArray) (a1 : ByteArray) : Option (ByteArray) := (stringslite_TrimPrefix.f a0 a1).bind fun t127 => (some t127)
set_option maxHeartbeats 8000000 in
set_option maxRecDepth 100000 in
theorem strings_TrimPrefix.calls (a0 : ByteArray) (a1 : ByteArray) (r : ByteArray) (w : World) (h : strings_TrimPrefix.f a0 a1 = some r) :
  Calls Tryz.prog 143 #[.string a0, .string a1] w fun e w' => e = .returned (.string r) ∧ Drawn0 w w' := by
 have H : ((stringslite_TrimPrefix.f a0 a1).bind fun t1 => (some t1)) = some r := h
 clear h
 replace H := bd_ H; obtain ⟨t1, A1, H⟩ := H
 obtain rfl := si_ H
 go_enter Tryz.func143, Tryz.ntmps143
 go_wp2_with (first | ((with_reducible refine gate_callee (f := 181) rfl ?_); refine gL (some 7) Tryz.func181 #[.string a0, .string a1] ?_; (with_reducible refine (stringslite_TrimPrefix.calls a0 a1 t1 _ A1.out).mono ?_); rintro e w' ⟨rfl, ⟨nd, rfl⟩⟩; refine ⟨_, rfl, ?_⟩))
 go_ret
 exact ⟨by first | rfl | (simp; done) | (simp [*]; done), by repeat (first | exact Drawn0.refl _ | apply Drawn0.step)⟩

/-! ### target_dots: function 144 -/
def target_dots.j0 : Nat → ByteArray → Bool → Option (Int)
 | 0, _, _ => none
 | k + 1, x4, x5 => if x5 = true then (some 1) else (if x4.toList = ([46, 46] : List UInt8) then (some 2) else (if x4.toList = ([46, 37, 50, 101] : List UInt8) then (some 2) else (if x4.toList = ([37, 50, 101, 46] : List UInt8) then (some 2) else (if x4.toList = ([37, 50, 101, 37, 50, 101] : List UInt8) then (some 2) else (some 0)))))
def target_dots.f (k : Nat) (a0 : ByteArray) : Option (Int) := (octet_Lower.f a0).bind fun t128 => (if t128.toList = ([46] : List UInt8) then (target_dots.j0 k t128 (t128.toList == ([46] : List UInt8))) else (target_dots.j0 k t128 (t128.toList == ([37, 50, 101] : List UInt8))))
theorem target_dots.mono_l : ∀ k, (∀ y0 y1, LeO (target_dots.j0 k y0 y1) (target_dots.j0 (k + 1) y0 y1))
 | 0 => fun _ _ r h => by simp [target_dots.j0] at h
 | k + 1 => by
  have ih0 := target_dots.mono_l k
  ·intros
   unfold target_dots.j0
   exact moE

theorem target_dots.mono : ∀ a0 k, LeO (target_dots.f k a0) (target_dots.f (k + 1) a0) := by
 intro a0 k
 have ih0 := target_dots.mono_l k
 unfold target_dots.f
 exact moE

set_option maxHeartbeats 8000000 in
set_option maxRecDepth 100000 in
theorem target_dots.calls (k : Nat) (a0 : ByteArray) (r : Int) (w : World) (h : target_dots.f k a0 = some r) :
  Calls Tryz.prog 144 #[.string a0] w fun e w' => e = .returned (.int .i64 r) ∧ Below w.heap.size w w' := by
 have HB := Aside0.mk (Below.refl w.heap.size w)
 have H : ((octet_Lower.f a0).bind fun t1 => (if t1.toList = ([46] : List UInt8) then (target_dots.j0 k t1 (t1.toList == ([46] : List UInt8))) else (target_dots.j0 k t1 (t1.toList == ([37, 50, 101] : List UInt8))))) = some r := h
 clear h
 replace H := bd_ H; obtain ⟨t1, A1, H⟩ := H
 have HC2 := Aside0.mk H
 clear H
 go_enter Tryz.func144, Tryz.ntmps144
 go_upto_if 5 with (first | ((with_reducible refine gate_callee (f := 95) rfl ?_); refine gL (some 4) Tryz.func95 #[.string a0] ?_; (with_reducible refine (octet_Lower.calls a0 t1 _ A1.out).mono ?_); rintro e w1a1 ⟨rfl, hb⟩; refine ⟨_, rfl, ?_⟩; replace HB := bS bE hb; (try clear hb)))
 (try simp only [Act.put, List.setIfInBounds_toArray, List.set_cons_zero, List.set_cons_succ])
 go_cut [5] (fun v4s1 wc => ∃ (kq : Nat) (x5_2 : Bool), v4s1 = .bool x5_2 ∧ Aside0 (target_dots.j0 kq t1 x5_2 = some r) ∧ Aside0 (kq ≤ k) ∧ Aside0 (Below w.heap.size w wc))
 case first =>
  have H := HC2.out
  clear HC2
  refine em_ (t1.toList = ([46] : List UInt8)) (fun c3 => ?g1p) (fun c3 => ?g1n)
  case' g1p =>
   rw [if_pos c3] at H
   have c3b0 : (t1.toList == ([46] : List UInt8)) = true := beq_iff_eq.mpr c3
   have c3b1 : (t1.toList != ([46] : List UInt8)) = false := bne_eq_false_iff_eq.mpr c3
   clear c3
   (first | rw [c3b0] | (simp only [i64_w, i32_w]; rw [c3b0]) | skip)
   have H' := Aside0.mk H
   clear H
   have M2_0 := trivial
  case' g1n =>
   rw [if_neg c3] at H
   have c3b0 : (t1.toList == ([46] : List UInt8)) = false := beq_eq_false_iff_ne.mpr c3
   have c3b1 : (t1.toList != ([46] : List UInt8)) = true := bne_iff_ne.mpr c3
   (first | rw [c3b0] | (simp only [i64_w, i32_w]; rw [c3b0]) | skip)
   have H' := Aside0.mk H
   clear H
   have M2_1 := trivial
  all_goals
   go_wp2
   go_meet
   first
   | clear M2_0
     case rel => exact ⟨_, ((t1.toList == ([46] : List UInt8))), rS, H', ⟨oE⟩, ⟨bE⟩⟩
   | clear M2_1
     case rel => exact ⟨_, ((t1.toList == ([37, 50, 101] : List UInt8))), rS, H', ⟨oE⟩, ⟨bE⟩⟩
 case rest =>
  clear HC2
  try clear c3
  obtain ⟨kq, x5_2, rfl, HA, HJ2, HB⟩ := hcut
  cases kq with
  | zero => exact absurd HA.out (by simp [target_dots.j0])
  | succ kj2 =>
   have H := HA.out
   clear HA
   simp only [target_dots.j0] at H
   refine em_ (x5_2 = true) (fun c5 => ?g3p) (fun c5 => ?g3n)
   case' g3p =>
    subst c5
    replace H := ifT_ H
    obtain rfl := si_ H
   case' g3n =>
    replace c5 := Bool.eq_false_iff.mpr c5
    subst c5
    replace H := ifF_ H
    refine em_ (t1.toList = ([46, 46] : List UInt8)) (fun c6 => ?g4p) (fun c6 => ?g4n)
    case' g4p =>
     rw [if_pos c6] at H
     have c6b0 : (t1.toList == ([46, 46] : List UInt8)) = true := beq_iff_eq.mpr c6
     have c6b1 : (t1.toList != ([46, 46] : List UInt8)) = false := bne_eq_false_iff_eq.mpr c6
     clear c6
     obtain rfl := si_ H
    case' g4n =>
     rw [if_neg c6] at H
     have c6b0 : (t1.toList == ([46, 46] : List UInt8)) = false := beq_eq_false_iff_ne.mpr c6
     have c6b1 : (t1.toList != ([46, 46] : List UInt8)) = true := bne_iff_ne.mpr c6
     refine em_ (t1.toList = ([46, 37, 50, 101] : List UInt8)) (fun c7 => ?g5p) (fun c7 => ?g5n)
     case' g5p =>
      rw [if_pos c7] at H
      have c7b0 : (t1.toList == ([46, 37, 50, 101] : List UInt8)) = true := beq_iff_eq.mpr c7
      have c7b1 : (t1.toList != ([46, 37, 50, 101] : List UInt8)) = false := bne_eq_false_iff_eq.mpr c7
      clear c7
      obtain rfl := si_ H
     case' g5n =>
      rw [if_neg c7] at H
      have c7b0 : (t1.toList == ([46, 37, 50, 101] : List UInt8)) = false := beq_eq_false_iff_ne.mpr c7
      have c7b1 : (t1.toList != ([46, 37, 50, 101] : List UInt8)) = true := bne_iff_ne.mpr c7
      refine em_ (t1.toList = ([37, 50, 101, 46] : List UInt8)) (fun c8 => ?g6p) (fun c8 => ?g6n)
      case' g6p =>
       rw [if_pos c8] at H
       have c8b0 : (t1.toList == ([37, 50, 101, 46] : List UInt8)) = true := beq_iff_eq.mpr c8
       have c8b1 : (t1.toList != ([37, 50, 101, 46] : List UInt8)) = false := bne_eq_false_iff_eq.mpr c8
       clear c8
       obtain rfl := si_ H
      case' g6n =>
       rw [if_neg c8] at H
       have c8b0 : (t1.toList == ([37, 50, 101, 46] : List UInt8)) = false := beq_eq_false_iff_ne.mpr c8
       have c8b1 : (t1.toList != ([37, 50, 101, 46] : List UInt8)) = true := bne_iff_ne.mpr c8
       refine em_ (t1.toList = ([37, 50, 101, 37, 50, 101] : List UInt8)) (fun c9 => ?g7p) (fun c9 => ?g7n)
       case' g7p =>
        rw [if_pos c9] at H
        have c9b0 : (t1.toList == ([37, 50, 101, 37, 50, 101] : List UInt8)) = true := beq_iff_eq.mpr c9
        have c9b1 : (t1.toList != ([37, 50, 101, 37, 50, 101] : List UInt8)) = false := bne_eq_false_iff_eq.mpr c9
        clear c9
        obtain rfl := si_ H
       case' g7n =>
        rw [if_neg c9] at H
        have c9b0 : (t1.toList == ([37, 50, 101, 37, 50, 101] : List UInt8)) = false := beq_eq_false_iff_ne.mpr c9
        have c9b1 : (t1.toList != ([37, 50, 101, 37, 50, 101] : List UInt8)) = true := bne_iff_ne.mpr c9
        obtain rfl := si_ H
   all_goals
    go_wp2
    go_ret
    exact ⟨rE, bE⟩

end Go.Proofs.YtfmajangcbgooaaGreatDoor.Pr
