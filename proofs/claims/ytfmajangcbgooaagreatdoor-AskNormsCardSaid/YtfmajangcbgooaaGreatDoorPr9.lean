-- Made by a program of this session (wip/xp/xp.py), over the print's words.
import Derived.Test.YtfmajangcbgooaaGreatDoorPr0
import Derived.Test.YtfmajangcbgooaaGreatDoorK0
import Derived.Test.YtfmajangcbgooaaGreatDoorPr6
import Derived.Test.YtfmajangcbgooaaGreatDoorPr7
import Derived.Test.YtfmajangcbgooaaGreatDoorPr8
import Derived.Test.YtfmajangcbgooaaGreatDoorG3
import Derived.Test.YtfmajangcbgooaaGreatDoorG5
namespace Go.Proofs.YtfmajangcbgooaaGreatDoor.Pr
open Go.RowKit Go.Proofs.YtfmajangcbgooaaGreatDoorW.PrintWords Go.Proofs.YtfmajangcbgooaaGreatDoorW.PrintLast Go.Proofs.YtfmajangcbgooaaGreatDoorW.PrintMore
attribute [local go_sem] max2_int min2_int max_two min_two max_three min_three max_four min_four   -- for this text's walks alone
set_option linter.unusedVariables false
set_option linter.unusedSimpArgs false

/-! ### target_Parse: function 45 -/
mutual
def target_Parse.j0 : Nat → ByteArray → ByteArray → Int → Option (ByteArray × ByteArray × Int × ByteArray × ByteArray × Int)
 | 0, _, _, _ => none
 | k + 1, x4, x5, x7 => if x4.size + 3 ≤ 9223372036854775807 then (if 0 ≤ x7 then (if x7 ≤ (x5.size : Int) then (if (x4 ++ (⟨#[58, 47, 47]⟩ : ByteArray)).size + (x5.extract 0 (x7 : Int).toNat).size ≤ 9223372036854775807 then ((origin_Parse.f k ((x4 ++ (⟨#[58, 47, 47]⟩ : ByteArray)) ++ (x5.extract 0 (x7 : Int).toNat))).bind fun bt166 => (if bt166.2.2.2 = 0 then ((strings_Cut.f (x5.extract (x7 : Int).toNat x5.size) (⟨#[63]⟩ : ByteArray)).bind fun bt171 => ((target_all.f k bt171.1 (⟨#[34, 35, 60, 62, 63, 92, 94, 123, 124, 125, 96]⟩ : ByteArray)).bind fun t174 => (if t174 = true then ((target_all.f k bt171.2.1 (⟨#[34, 35, 60, 62]⟩ : ByteArray)).bind fun t175 => (target_Parse.j1 k bt171.1 bt171.2.1 bt171.2.2 (!t175) bt166.1 bt166.2.1 bt166.2.2.1)) else (target_Parse.j1 k bt171.1 bt171.2.1 bt171.2.2 true bt166.1 bt166.2.1 bt166.2.2.1)))) else (some ((⟨#[]⟩ : ByteArray), (⟨#[]⟩ : ByteArray), 0, (⟨#[]⟩ : ByteArray), (⟨#[]⟩ : ByteArray), bt166.2.2.2)))) else (none)) else (none)) else (none)) else (none)
def target_Parse.j1 : Nat → ByteArray → ByteArray → Bool → Bool → ByteArray → ByteArray → Int → Option (ByteArray × ByteArray × Int × ByteArray × ByteArray × Int)
 | 0, _, _, _, _, _, _, _ => none
 | k + 1, x10, x11, x12, x68, x171000, x171001, x171002 => if x68 = true then (some ((⟨#[]⟩ : ByteArray), (⟨#[]⟩ : ByteArray), 0, (⟨#[]⟩ : ByteArray), (⟨#[]⟩ : ByteArray), 3)) else ((target_Clean.f k x10).bind fun t176 => (if x12 = true then (if 1 + x11.size ≤ 9223372036854775807 then ((target_show.f k x171000 x171001 x171002 t176 ((⟨#[63]⟩ : ByteArray) ++ x11)).bind fun t178 => (if (t178.size : Int) > 512 then (some ((⟨#[]⟩ : ByteArray), (⟨#[]⟩ : ByteArray), 0, (⟨#[]⟩ : ByteArray), (⟨#[]⟩ : ByteArray), 4)) else (some (x171000, x171001, x171002, t176, (⟨#[63]⟩ : ByteArray) ++ x11, 0)))) else (none)) else ((target_show.f k x171000 x171001 x171002 t176 (⟨#[]⟩ : ByteArray)).bind fun t179 => (if (t179.size : Int) > 512 then (some ((⟨#[]⟩ : ByteArray), (⟨#[]⟩ : ByteArray), 0, (⟨#[]⟩ : ByteArray), (⟨#[]⟩ : ByteArray), 4)) else (some (x171000, x171001, x171002, t176, (⟨#[]⟩ : ByteArray), 0))))))
end
def target_Parse.f (k : Nat) (a0 : ByteArray) : Option (ByteArray × ByteArray × Int × ByteArray × ByteArray × Int) := if (a0.size : Int) > 512 then (some ((⟨#[]⟩ : ByteArray), (⟨#[]⟩ : ByteArray), 0, (⟨#[]⟩ : ByteArray), (⟨#[]⟩ : ByteArray), 4)) else ((strings_Cut.f a0 (⟨#[35]⟩ : ByteArray)).bind fun bt159 => ((strings_Cut.f bt159.1 (⟨#[58, 47, 47]⟩ : ByteArray)).bind fun bt162 => (if bt162.2.2 = true then ((strings_IndexAny.f bt162.2.1 (⟨#[47, 63]⟩ : ByteArray)).bind fun t165 => (if t165 < 0 then (target_Parse.j0 k bt162.1 bt162.2.1 (bt162.2.1.size : Int)) else (target_Parse.j0 k bt162.1 bt162.2.1 t165))) else (some ((⟨#[]⟩ : ByteArray), (⟨#[]⟩ : ByteArray), 0, (⟨#[]⟩ : ByteArray), (⟨#[]⟩ : ByteArray), 3)))))
theorem target_Parse.mono_l : ∀ k, (∀ y0 y1 y2, LeO (target_Parse.j0 k y0 y1 y2) (target_Parse.j0 (k + 1) y0 y1 y2)) ∧ (∀ y0 y1 y2 y3 y4 y5 y6, LeO (target_Parse.j1 k y0 y1 y2 y3 y4 y5 y6) (target_Parse.j1 (k + 1) y0 y1 y2 y3 y4 y5 y6))
 | 0 => ⟨fun _ _ _ r h => by simp [target_Parse.j0] at h, fun _ _ _ _ _ _ _ r h => by simp [target_Parse.j1] at h⟩
 | k + 1 => by
  obtain ⟨ih0, ih1⟩ := target_Parse.mono_l k
  have hm0 := @origin_Parse.mono; have hm1 := @target_Clean.mono; have hm2 := @target_all.mono; have hm3 := @target_show.mono
  refine ⟨?_, ?_⟩
  ·intros
   unfold target_Parse.j0
   exact moE
  ·intros
   unfold target_Parse.j1
   exact moE

theorem target_Parse.mono : ∀ a0 k, LeO (target_Parse.f k a0) (target_Parse.f (k + 1) a0) := by
 intro a0 k
 obtain ⟨ih0, ih1⟩ := target_Parse.mono_l k
 have hm0 := @origin_Parse.mono; have hm1 := @target_Clean.mono; have hm2 := @target_all.mono; have hm3 := @target_show.mono; unfold target_Parse.f
 exact moE

set_option maxHeartbeats 8000000 in
set_option maxRecDepth 100000 in
theorem target_Parse.calls (k : Nat) (a0 : ByteArray) (r1 : ByteArray) (r2 : ByteArray) (r3 : Int) (r4 : ByteArray) (r5 : ByteArray) (r6 : Int) (w : World) (hM_ : Aside0 (LaidW w)) (h : target_Parse.f k a0 = some (r1, r2, r3, r4, r5, r6)) :
  Calls Tryz.prog 45 #[.string a0] w fun e w' => e = .returned (.tuple #[.agg #[.string r1, .string r2, .int .i64 r3, .string r4, .string r5], .int .i64 r6]) ∧ Below w.heap.size w w' := by
 have hu72 := Tryz.underlying72
 have hu70 := Tryz.underlying70
 have HB := Aside0.mk (Below.refl w.heap.size w)
 have H : (if (a0.size : Int) > 512 then (some ((⟨#[]⟩ : ByteArray), (⟨#[]⟩ : ByteArray), 0, (⟨#[]⟩ : ByteArray), (⟨#[]⟩ : ByteArray), 4)) else ((strings_Cut.f a0 (⟨#[35]⟩ : ByteArray)).bind fun bt1 => ((strings_Cut.f bt1.1 (⟨#[58, 47, 47]⟩ : ByteArray)).bind fun bt2 => (if bt2.2.2 = true then ((strings_IndexAny.f bt2.2.1 (⟨#[47, 63]⟩ : ByteArray)).bind fun t3 => (if t3 < 0 then (target_Parse.j0 k bt2.1 bt2.2.1 (bt2.2.1.size : Int)) else (target_Parse.j0 k bt2.1 bt2.2.1 t3))) else (some ((⟨#[]⟩ : ByteArray), (⟨#[]⟩ : ByteArray), 0, (⟨#[]⟩ : ByteArray), (⟨#[]⟩ : ByteArray), 3)))))) = some (r1, r2, r3, r4, r5, r6) := h
 clear h
 refine em_ ((a0.size : Int) > 512) (fun c1 => ?g1p) (fun c1 => ?g1n)
 case' g1p =>
  rw [if_pos c1] at H
  have c1b0 : decide (512 < (a0.size : Int)) = true := decide_eq_true c1
  have c1b1 : decide (512 < a0.size) = true := decide_eq_true (by omega)
  clear c1
  simp only [Option.some.injEq, Prod.mk.injEq] at H
  obtain ⟨rfl, rfl, rfl, rfl, rfl, rfl⟩ := H
  have M3_0 := trivial
 case' g1n =>
  rw [if_neg c1] at H
  have c1b0 : decide (512 < (a0.size : Int)) = false := decide_eq_false c1
  have c1b1 : decide (512 < a0.size) = false := decide_eq_false (by omega)
  clear c1
  replace H := bd_ H; obtain ⟨⟨t1, t4, t5⟩, A2, H⟩ := H
  replace H : ((strings_Cut.f t1 (⟨#[58, 47, 47]⟩ : ByteArray)).bind fun bt2 => (if bt2.2.2 = true then ((strings_IndexAny.f bt2.2.1 (⟨#[47, 63]⟩ : ByteArray)).bind fun t3 => (if t3 < 0 then (target_Parse.j0 k bt2.1 bt2.2.1 (bt2.2.1.size : Int)) else (target_Parse.j0 k bt2.1 bt2.2.1 t3))) else (some ((⟨#[]⟩ : ByteArray), (⟨#[]⟩ : ByteArray), 0, (⟨#[]⟩ : ByteArray), (⟨#[]⟩ : ByteArray), 3)))) = some (r1, r2, r3, r4, r5, r6) := H
  replace H := bd_ H; obtain ⟨⟨t2, t6, t7⟩, A3, H⟩ := H
  replace H : (if t7 = true then ((strings_IndexAny.f t6 (⟨#[47, 63]⟩ : ByteArray)).bind fun t3 => (if t3 < 0 then (target_Parse.j0 k t2 t6 (t6.size : Int)) else (target_Parse.j0 k t2 t6 t3))) else (some ((⟨#[]⟩ : ByteArray), (⟨#[]⟩ : ByteArray), 0, (⟨#[]⟩ : ByteArray), (⟨#[]⟩ : ByteArray), 3))) = some (r1, r2, r3, r4, r5, r6) := H
  refine em_ (t7 = true) (fun c4 => ?g2p) (fun c4 => ?g2n)
  case' g2p =>
   subst c4
   replace H := ifT_ H
   replace H := bd_ H; obtain ⟨t3, A5, H⟩ := H
   have HC6 := Aside0.mk H
   clear H
   have M3_1 := trivial
  case' g2n =>
   replace c4 := Bool.eq_false_iff.mpr c4
   subst c4
   replace H := ifF_ H
   simp only [Option.some.injEq, Prod.mk.injEq] at H
   obtain ⟨rfl, rfl, rfl, rfl, rfl, rfl⟩ := H
   have M3_0 := trivial
 all_goals
  go_enter Tryz.func45, Tryz.ntmps45
  first
  | clear M3_0
    go_wp2_with (first | ((with_reducible refine gate_dst (N := 2) rfl ?_); refine bxE (N := 2) (cs := #[.string (⟨#[]⟩ : ByteArray), .string (⟨#[]⟩ : ByteArray), .int .i64 0, .string (⟨#[]⟩ : ByteArray), .string (⟨#[]⟩ : ByteArray)]) (t := 72) fun gb1a1 hg w1a2 hbox hb => ?_; obtain ⟨HB', BK1a1, GW1a1⟩ := bx_ bE hg hbox hb; have GE1a1 := GW1a1; clear HB hb hbox hg; have HB := HB'; clear HB'; obtain ⟨z1a3_0, z1a3_1, z1a3_2, z1a3_3, z1a3_4, zf1a3_0, zf1a3_1, zf1a3_2, zf1a3_3, zf1a3_4⟩ := bk5_ BK1a1) | ((with_reducible refine gate_callee (f := 90) rfl ?_); refine gL (some 20) Tryz.func90 #[.string a0, .string (⟨#[35]⟩ : ByteArray)] ?_; (with_reducible refine (strings_Cut.calls a0 (⟨#[35]⟩ : ByteArray) t1 t4 _ _ ?side1 A2.out).mono ?_); (case side1 => exact ⟨lE⟩); rintro e w' ⟨rfl, ⟨nd, rfl⟩⟩; refine ⟨_, rfl, ?_⟩; (try (rw [drewN_self w1a2]; generalize hq_ : World.drewN w1a2 _ = w1a2; have n0_ : Aside0 (w1a2.heap[gb1a1]? = some (.cells #[.string (⟨#[]⟩ : ByteArray), .string (⟨#[]⟩ : ByteArray), .int .i64 0, .string (⟨#[]⟩ : ByteArray), .string (⟨#[]⟩ : ByteArray)] 72 (0, 0))) := ⟨by rw [← hq_]; exact (kC BK1a1)⟩; have n1_ : Aside0 (Below w.heap.size w w1a2) := ⟨by rw [← hq_]; exact bE⟩; clear BK1a1 HB hq_; have BK1a1 := n0_; have HB := n1_; clear n0_ n1_))) | ((with_reducible refine gate_callee (f := 90) rfl ?_); refine gL (some 26) Tryz.func90 #[.string t1, .string (⟨#[58, 47, 47]⟩ : ByteArray)] ?_; (with_reducible refine (strings_Cut.calls t1 (⟨#[58, 47, 47]⟩ : ByteArray) t2 t6 _ _ ?side1 A3.out).mono ?_); (case side1 => exact ⟨lE⟩); rintro e w' ⟨rfl, ⟨nd, rfl⟩⟩; refine ⟨_, rfl, ?_⟩; (try (rw [drewN_self w1a2]; generalize hq_ : World.drewN w1a2 _ = w1a2; have n0_ : Aside0 (w1a2.heap[gb1a1]? = some (.cells #[.string (⟨#[]⟩ : ByteArray), .string (⟨#[]⟩ : ByteArray), .int .i64 0, .string (⟨#[]⟩ : ByteArray), .string (⟨#[]⟩ : ByteArray)] 72 (0, 0))) := ⟨by rw [← hq_]; exact (kC BK1a1)⟩; have n1_ : Aside0 (Below w.heap.size w w1a2) := ⟨by rw [← hq_]; exact bE⟩; clear BK1a1 HB hq_; have BK1a1 := n0_; have HB := n1_; clear n0_ n1_)); obtain ⟨z3a1_0, z3a1_1, z3a1_2, z3a1_3, z3a1_4, zf3a1_0, zf3a1_1, zf3a1_2, zf3a1_3, zf3a1_4⟩ := bk5_ BK1a1))
    refine bodyPost_ret (results_ct rfl _ _ gb1a1 72 #[.string (⟨#[]⟩ : ByteArray), .string (⟨#[]⟩ : ByteArray), .int .i64 0, .string (⟨#[]⟩ : ByteArray), .string (⟨#[]⟩ : ByteArray)] (0, 0) _ rfl (kT) Tryz.underlying72 rfl (by kernel_rfl)) rfl ?_
    exact ⟨rE, bE⟩
  | clear M3_1
    go_upto_if 36 with (first | ((with_reducible refine gate_dst (N := 2) rfl ?_); refine bxE (N := 2) (cs := #[.string (⟨#[]⟩ : ByteArray), .string (⟨#[]⟩ : ByteArray), .int .i64 0, .string (⟨#[]⟩ : ByteArray), .string (⟨#[]⟩ : ByteArray)]) (t := 72) fun gb1a1 hg w1a2 hbox hb => ?_; obtain ⟨HB', BK1a1, GW1a1⟩ := bx_ bE hg hbox hb; have GE1a1 := GW1a1; clear HB hb hbox hg; have HB := HB'; clear HB') | ((with_reducible refine gate_callee (f := 90) rfl ?_); refine gL (some 20) Tryz.func90 #[.string a0, .string (⟨#[35]⟩ : ByteArray)] ?_; (with_reducible refine (strings_Cut.calls a0 (⟨#[35]⟩ : ByteArray) t1 t4 t5 _ ?side1 A2.out).mono ?_); (case side1 => exact ⟨lE⟩); rintro e w' ⟨rfl, ⟨nd, rfl⟩⟩; refine ⟨_, rfl, ?_⟩) | ((with_reducible refine gate_callee (f := 90) rfl ?_); refine gL (some 26) Tryz.func90 #[.string t1, .string (⟨#[58, 47, 47]⟩ : ByteArray)] ?_; (with_reducible refine (strings_Cut.calls t1 (⟨#[58, 47, 47]⟩ : ByteArray) t2 t6 true _ ?side1 A3.out).mono ?_); (case side1 => exact ⟨lE⟩); rintro e w' ⟨rfl, ⟨nd, rfl⟩⟩; refine ⟨_, rfl, ?_⟩) | ((with_reducible refine gate_callee (f := 91) rfl ?_); refine gL (some 34) Tryz.func91 #[.string t6, .string (⟨#[47, 63]⟩ : ByteArray)] ?_; (with_reducible refine (strings_IndexAny.calls t6 (⟨#[47, 63]⟩ : ByteArray) t3 _ A5.out).mono ?_); rintro e w4a1 ⟨rfl, hb⟩; refine ⟨_, rfl, ?_⟩; replace BK1a1 := kM BK1a1 hb; replace HB := bS bE hb; (try clear hb)))
    (try simp only [Act.put, List.setIfInBounds_toArray, List.set_cons_zero, List.set_cons_succ])
    go_cut [7] (fun v4s1 wc => ∃ (kq : Nat) (x7_8 : Int), v4s1 = .int .i64 x7_8 ∧ Aside0 (target_Parse.j0 kq t2 t6 x7_8 = some (r1, r2, r3, r4, r5, r6)) ∧ Aside0 (kq ≤ k) ∧ Aside0 (wc.heap[gb1a1]? = some (.cells #[.string (⟨#[]⟩ : ByteArray), .string (⟨#[]⟩ : ByteArray), .int .i64 0, .string (⟨#[]⟩ : ByteArray), .string (⟨#[]⟩ : ByteArray)] 72 (0, 0))) ∧ Aside0 (Below w.heap.size w wc))
    case first =>
     have H := HC6.out
     clear HC6
     refine em_ (t3 < 0) (fun c7 => ?g4p) (fun c7 => ?g4n)
     case' g4p =>
      rw [if_pos c7] at H
      have c7b0 : decide (t3 < 0) = true := decide_eq_true c7
      clear c7
      (first | rw [c7b0] | (simp only [i64_w, i32_w]; rw [c7b0]) | skip)
      have H' := Aside0.mk H
      clear H
      have M5_0 := trivial
     case' g4n =>
      rw [if_neg c7] at H
      have c7b0 : decide (t3 < 0) = false := decide_eq_false c7
      clear c7
      (first | rw [c7b0] | (simp only [i64_w, i32_w]; rw [c7b0]) | skip)
      have H' := Aside0.mk H
      clear H
      have M5_1 := trivial
     all_goals
      go_wp2
      go_meet
      first
      | clear M5_0
        case rel => exact ⟨_, ((t6.size : Int)), rS, H', ⟨oE⟩, ⟨kC BK1a1⟩, ⟨bE⟩⟩
      | clear M5_1
        case rel => exact ⟨_, (t3), rS, H', ⟨oE⟩, ⟨kC BK1a1⟩, ⟨bE⟩⟩
    case rest =>
     clear HC6
     try clear c7
     try clear c1
     try clear c1b0
     try clear c1b1
     try clear c4
     obtain ⟨kq, x7_8, rfl, HA, HJ8, BK1a1, HB⟩ := hcut
     cases kq with
     | zero => exact absurd HA.out (by simp [target_Parse.j0])
     | succ kj8 =>
      have H := HA.out
      clear HA
      simp only [target_Parse.j0] at H
      replace H := iteN_ H; obtain ⟨c10, H⟩ := H
      have c10b0 := eq_true c10
      have c10b1 : decide (t2.size + 3 ≤ 9223372036854775807) = true := decide_eq_true c10
      try have c10b2 : (9223372036854775807 < t2.size + 3) = False := eq_false (Nat.not_lt.2 c10)
      replace H := iteN_ H; obtain ⟨c11, H⟩ := H
      have c11b0 := eq_true c11
      have c11b1 : decide (0 ≤ x7_8) = true := decide_eq_true c11
      clear c11
      replace H := iteN_ H; obtain ⟨c12, H⟩ := H
      have c12b0 := eq_true c12
      have c12b1 : decide (x7_8 ≤ (t6.size : Int)) = true := decide_eq_true c12
      clear c12
      replace H := iteN_ H; obtain ⟨c13, H⟩ := H
      try (have c13b5 := c13; simp only [ByteArray.size_append, Int.natCast_add] at c13b5)
      have c13b0 := eq_true c13
      have c13b1 : decide ((t2 ++ (⟨#[58, 47, 47]⟩ : ByteArray)).size + (t6.extract 0 (x7_8 : Int).toNat).size ≤ 9223372036854775807) = true := decide_eq_true c13
      try have c13b2 : (9223372036854775807 < (t2 ++ (⟨#[58, 47, 47]⟩ : ByteArray)).size + (t6.extract 0 (x7_8 : Int).toNat).size) = False := eq_false (Nat.not_lt.2 c13)
      try (have c13b7 := c13b2; simp (disch := omega) only [ByteArray.size_append, ByteArray.size_extract, Nat.sub_zero, Nat.min_self, Nat.min_eq_left] at c13b7)
      try (have c13b8 := c13b0; simp only [ByteArray.size_extract, Nat.min_self, Nat.sub_zero] at c13b8)
      try have c13b3 : (9223372036854775807 < t2.size + 3 + (t6.extract 0 (x7_8 : Int).toNat).size) = False := eq_false (Nat.not_lt.2 (by have z_ := c13; simp only [ByteArray.size_append] at z_; first | exact z_ | simpa using z_))
      replace H := bd_ H; obtain ⟨⟨t8, t9, t10, t11⟩, A14, H⟩ := H
      replace H : (if t11 = 0 then ((strings_Cut.f (t6.extract (x7_8 : Int).toNat t6.size) (⟨#[63]⟩ : ByteArray)).bind fun bt12 => ((target_all.f kj8 bt12.1 (⟨#[34, 35, 60, 62, 63, 92, 94, 123, 124, 125, 96]⟩ : ByteArray)).bind fun t13 => (if t13 = true then ((target_all.f kj8 bt12.2.1 (⟨#[34, 35, 60, 62]⟩ : ByteArray)).bind fun t14 => (target_Parse.j1 kj8 bt12.1 bt12.2.1 bt12.2.2 (!t14) t8 t9 t10)) else (target_Parse.j1 kj8 bt12.1 bt12.2.1 bt12.2.2 true t8 t9 t10)))) else (some ((⟨#[]⟩ : ByteArray), (⟨#[]⟩ : ByteArray), 0, (⟨#[]⟩ : ByteArray), (⟨#[]⟩ : ByteArray), t11))) = some (r1, r2, r3, r4, r5, r6) := H
      refine em_ (t11 = 0) (fun c15 => ?g6p) (fun c15 => ?g6n)
      case' g6p =>
       rw [if_pos c15] at H
       have c15b0 : (t11 == 0) = true := beq_iff_eq.mpr c15
       have c15b1 : (t11 != 0) = false := bne_eq_false_iff_eq.mpr c15
       clear c15
       have c16b0 := eq_true (of_decide_eq_true mE : 0 ≤ x7_8)
       have c17b0 := eq_true (of_decide_eq_true mE : x7_8 ≤ (t6.size : Int))
       replace H := bd_ H; obtain ⟨⟨t12, t15, t16⟩, A18, H⟩ := H
       replace H : ((target_all.f kj8 t12 (⟨#[34, 35, 60, 62, 63, 92, 94, 123, 124, 125, 96]⟩ : ByteArray)).bind fun t13 => (if t13 = true then ((target_all.f kj8 t15 (⟨#[34, 35, 60, 62]⟩ : ByteArray)).bind fun t14 => (target_Parse.j1 kj8 t12 t15 t16 (!t14) t8 t9 t10)) else (target_Parse.j1 kj8 t12 t15 t16 true t8 t9 t10))) = some (r1, r2, r3, r4, r5, r6) := H
       have HC19 := Aside0.mk H
       clear H
       have M7_0 := trivial
      case' g6n =>
       rw [if_neg c15] at H
       have c15b0 : (t11 == 0) = false := beq_eq_false_iff_ne.mpr c15
       have c15b1 : (t11 != 0) = true := bne_iff_ne.mpr c15
       simp only [Option.some.injEq, Prod.mk.injEq] at H
       obtain ⟨rfl, rfl, rfl, rfl, rfl, rfl⟩ := H
       have M7_1 := trivial
      all_goals
       first
       | clear M7_0
         go_upto_region 14 with (first | ((with_reducible refine gate_callee (f := 46) rfl ?_); refine gL (some 46) Tryz.func46 #[.string ((t2 ++ (⟨#[58, 47, 47]⟩ : ByteArray)) ++ (t6.extract 0 (x7_8 : Int).toNat))] ?_; (with_reducible refine (origin_Parse.calls kj8 ((t2 ++ (⟨#[58, 47, 47]⟩ : ByteArray)) ++ (t6.extract 0 (x7_8 : Int).toNat)) t8 t9 t10 t11 _ ?side1 A14.out).mono ?_); (case side1 => exact ⟨lE⟩); rintro e w5a1 ⟨rfl, hb⟩; refine ⟨_, rfl, ?_⟩; replace BK1a1 := kM BK1a1 hb; replace HB := bS bE hb; (try clear hb)) | ((with_reducible refine gate_dst (N := 8) rfl ?_); refine bxE (N := 8) (cs := #[.string (⟨#[]⟩ : ByteArray), .string (⟨#[]⟩ : ByteArray), .int .i64 0]) (t := 70) fun gb6a1 hg w6a2 hbox hb => ?_; have BK6a1 := Aside0.mk (hbox); have GW6a1 := sE (w := w) hg; have GE6a1 := sE (w := w) hg; have NB1a1_6a1 := neL BK1a1 hg; have NB6a1_1a1 := neG BK1a1 hg; replace BK1a1 := kM BK1a1 hb; replace HB := bS bE hb; clear hb hbox hg; have hnb6a3 := NB6a1_1a1.out; have hnc6a3 := NB1a1_6a1.out; obtain ⟨z6a4_0, z6a4_1, z6a4_2, zf6a4_0, zf6a4_1, zf6a4_2⟩ := bk3_ BK6a1) | ((with_reducible refine gate_callee (f := 90) rfl ?_); refine gL (some 57) Tryz.func90 #[.string (t6.extract (x7_8 : Int).toNat t6.size), .string (⟨#[63]⟩ : ByteArray)] ?_; (with_reducible refine (strings_Cut.calls (t6.extract (x7_8 : Int).toNat t6.size) (⟨#[63]⟩ : ByteArray) t12 t15 t16 _ ?side1 A18.out).mono ?_); (case side1 => exact ⟨lE⟩); rintro e w' ⟨rfl, ⟨nd, rfl⟩⟩; refine ⟨_, rfl, ?_⟩))
         (try simp only [Act.put, List.setIfInBounds_toArray, List.set_cons_zero, List.set_cons_succ])
         go_cut [68] (fun v9s1 wc => ∃ (kq : Nat) (x68_21 : Bool), v9s1 = .bool x68_21 ∧ Aside0 (target_Parse.j1 kq t12 t15 t16 x68_21 t8 t9 t10 = some (r1, r2, r3, r4, r5, r6)) ∧ Aside0 (kq ≤ kj8) ∧ Aside0 (wc.heap[gb1a1]? = some (.cells #[.string (⟨#[]⟩ : ByteArray), .string (⟨#[]⟩ : ByteArray), .int .i64 0, .string (⟨#[]⟩ : ByteArray), .string (⟨#[]⟩ : ByteArray)] 72 (0, 0))) ∧ Aside0 (wc.heap[gb6a1]? = some (.cells #[.string t8, .string t9, .int .i64 t10] 70 (0, 0))) ∧ Aside0 (Below w.heap.size w wc))
         case first =>
          have H := HC19.out
          clear HC19
          replace H := bd_ H; obtain ⟨t13, A20, H⟩ := H
          refine em_ (t13 = true) (fun c21 => ?g8p) (fun c21 => ?g8n)
          case' g8p =>
           subst c21
           replace H := ifT_ H
           replace H := bd_ H; obtain ⟨t14, A22, H⟩ := H
           have H' := Aside0.mk H
           clear H
           have M9_0 := trivial
          case' g8n =>
           replace c21 := Bool.eq_false_iff.mpr c21
           subst c21
           replace H := ifF_ H
           have H' := Aside0.mk H
           clear H
           have M9_1 := trivial
          all_goals
           go_wp2_with (first | ((with_reducible refine gate_callee (f := 92) rfl ?_); refine gL (some 62) Tryz.func92 #[.string t12, .string (⟨#[34, 35, 60, 62, 63, 92, 94, 123, 124, 125, 96]⟩ : ByteArray)] ?_; (with_reducible refine (target_all.calls kj8 t12 (⟨#[34, 35, 60, 62, 63, 92, 94, 123, 124, 125, 96]⟩ : ByteArray) _ _ A20.out).mono ?_); rintro e w' ⟨rfl, ⟨nd, rfl⟩⟩; refine ⟨_, rfl, ?_⟩) | (go_at_call 92; (with_reducible refine (target_all.calls kj8 t15 (⟨#[34, 35, 60, 62]⟩ : ByteArray) _ _ A22.out).mono ?_); rintro e w' ⟨rfl, ⟨nd, rfl⟩⟩))
           go_meet
           first
           | clear M9_0
             case rel => exact ⟨_, (!t14), rS, H', ⟨by have := HJ8.out; first | omega | exact Nat.le_refl _⟩, ⟨kT⟩, ⟨kT⟩, ⟨bE⟩⟩
           | clear M9_1
             case rel => exact ⟨_, (true), rS, H', ⟨by have := HJ8.out; first | omega | exact Nat.le_refl _⟩, ⟨kT⟩, ⟨kT⟩, ⟨bE⟩⟩
         case rest =>
          clear HC19
          try clear c7
          try clear c1
          try clear c1b0
          try clear c1b1
          try clear c4
          try clear c10
          try clear c10b0
          try clear c10b1
          try clear c10b2
          try clear c11
          try clear c11b0
          try clear c11b1
          try clear c12
          try clear c12b0
          try clear c12b1
          try clear c13
          try clear c13b0
          try clear c13b1
          try clear c13b2
          try clear c15
          try clear c15b0
          try clear c15b1
          try clear c16b0
          try clear c17b0
          try clear z6a4_0
          try clear z6a4_1
          try clear z6a4_2
          try clear zf6a4_0
          try clear zf6a4_1
          try clear zf6a4_2
          obtain ⟨kq, x68_21, rfl, HA, HJ21, BK1a1, BK6a1, HB⟩ := hcut
          cases kq with
          | zero => exact absurd HA.out (by simp [target_Parse.j1])
          | succ kj21 =>
           have H := HA.out
           clear HA
           simp only [target_Parse.j1] at H
           refine em_ (x68_21 = true) (fun c21 => ?g10p) (fun c21 => ?g10n)
           case' g10p =>
            subst c21
            replace H := ifT_ H
            simp only [Option.some.injEq, Prod.mk.injEq] at H
            obtain ⟨rfl, rfl, rfl, rfl, rfl, rfl⟩ := H
            have hnb22 := NB1a1_6a1.out
            have hnc22 := NB6a1_1a1.out
            obtain ⟨z23_0, z23_1, z23_2, z23_3, z23_4, zf23_0, zf23_1, zf23_2, zf23_3, zf23_4⟩ := bk5_ BK1a1
            have M14_0 := trivial
           case' g10n =>
            replace c21 := Bool.eq_false_iff.mpr c21
            subst c21
            replace H := ifF_ H
            replace H := bd_ H; obtain ⟨t17, A22, H⟩ := H
            refine em_ (t16 = true) (fun c23 => ?g11p) (fun c23 => ?g11n)
            case' g11p =>
             subst c23
             replace H := ifT_ H
             replace H := iteN_ H; obtain ⟨c24, H⟩ := H
             have c24b0 := eq_true c24
             have c24b1 : decide (1 + t15.size ≤ 9223372036854775807) = true := decide_eq_true c24
             try have c24b2 : (9223372036854775807 < 1 + t15.size) = False := eq_false (Nat.not_lt.2 c24)
             replace H := bd_ H; obtain ⟨t18, A25, H⟩ := H
             refine em_ ((t18.size : Int) > 512) (fun c26 => ?g12p) (fun c26 => ?g12n)
             case' g12p =>
              rw [if_pos c26] at H
              have c26b0 : decide (512 < (t18.size : Int)) = true := decide_eq_true c26
              have c26b1 : decide (512 < t18.size) = true := decide_eq_true (by omega)
              clear c26
              simp only [Option.some.injEq, Prod.mk.injEq] at H
              obtain ⟨rfl, rfl, rfl, rfl, rfl, rfl⟩ := H
              have M14_1 := trivial; have M15_0 := trivial
             case' g12n =>
              rw [if_neg c26] at H
              have c26b0 : decide (512 < (t18.size : Int)) = false := decide_eq_false c26
              have c26b1 : decide (512 < t18.size) = false := decide_eq_false (by omega)
              clear c26
              simp only [Option.some.injEq, Prod.mk.injEq] at H
              obtain ⟨rfl, rfl, rfl, rfl, rfl, rfl⟩ := H
              have M14_1 := trivial; have M15_1 := trivial
            case' g11n =>
             replace c23 := Bool.eq_false_iff.mpr c23
             subst c23
             replace H := ifF_ H
             replace H := bd_ H; obtain ⟨t18, A24, H⟩ := H
             refine em_ ((t18.size : Int) > 512) (fun c25 => ?g13p) (fun c25 => ?g13n)
             case' g13p =>
              rw [if_pos c25] at H
              have c25b0 : decide (512 < (t18.size : Int)) = true := decide_eq_true c25
              have c25b1 : decide (512 < t18.size) = true := decide_eq_true (by omega)
              clear c25
              simp only [Option.some.injEq, Prod.mk.injEq] at H
              obtain ⟨rfl, rfl, rfl, rfl, rfl, rfl⟩ := H
              have M14_1 := trivial; have M15_2 := trivial
             case' g13n =>
              rw [if_neg c25] at H
              have c25b0 : decide (512 < (t18.size : Int)) = false := decide_eq_false c25
              have c25b1 : decide (512 < t18.size) = false := decide_eq_false (by omega)
              clear c25
              simp only [Option.some.injEq, Prod.mk.injEq] at H
              obtain ⟨rfl, rfl, rfl, rfl, rfl, rfl⟩ := H
              have M14_1 := trivial; have M15_3 := trivial
           all_goals
            try go_wp2
            first
            | clear M14_0
              refine bodyPost_ret (results_ct rfl _ _ gb1a1 72 #[.string (⟨#[]⟩ : ByteArray), .string (⟨#[]⟩ : ByteArray), .int .i64 0, .string (⟨#[]⟩ : ByteArray), .string (⟨#[]⟩ : ByteArray)] (0, 0) _ rfl (kT) Tryz.underlying72 rfl (by kernel_rfl)) rfl ?_
              exact ⟨rE, bE⟩
            | clear M14_1
              have n0_ := Aside0.mk (blk_drew BK1a1.out)
              have n1_ := Aside0.mk (blk_drew BK6a1.out)
              have n2_ := Aside0.mk (below_drew1 HB.out)
              clear BK1a1
              clear BK6a1
              clear HB
              have BK1a1 := n0_
              have BK6a1 := n1_
              have HB := n2_
              clear n0_ n1_ n2_
              refine start_ (n := 6) (S := fun w' => w'.cell? ⟨gb6a1, 0, none⟩ = some (.string t8) ∧ w'.cell? ⟨gb6a1, 1, none⟩ = some (.string t9) ∧ w'.cell? ⟨gb6a1, 2, none⟩ = some (.int .i64 t10)) (ds := []) (bz 6 0) (by kernel_rfl) rfl rfl (bkc3_ BK6a1) (fun hHeld => ?_)
              generalize wc.drew = w24s1 at BK1a1 BK6a1 HB hHeld ⊢
              refine pA (i := 1) (N := some 71) (bz 6 2) (by kernel_rfl) ?_
              refine tA3 (i := 0) (N := some 70) (bz 6 3) (by kernel_rfl) hHeld ?_
              refine join_ (σ := Nat) 1 (bz 6 31) (fun s_ => [(72, .string t17), (13, .pointer (some ⟨s_, 0, none⟩)), (73, .agg #[.string t8, .string t9, .int .i64 t10, .string t17, .string (⟨#[]⟩ : ByteArray)])]) (fun s_ w' => (w'.cell? ⟨gb6a1, 0, none⟩ = some (.string t8) ∧ w'.cell? ⟨gb6a1, 1, none⟩ = some (.string t9) ∧ w'.cell? ⟨gb6a1, 2, none⟩ = some (.int .i64 t10)) ∧ (w'.heap[gb1a1]? = some (.cells #[.string (⟨#[]⟩ : ByteArray), .string (⟨#[]⟩ : ByteArray), .int .i64 0, .string (⟨#[]⟩ : ByteArray), .string (⟨#[]⟩ : ByteArray)] 72 (0, 0))) ∧ (w'.heap[gb6a1]? = some (.cells #[.string t8, .string t9, .int .i64 t10] 70 (0, 0))) ∧ (w'.heap[s_]? = some (.cells #[.string (⟨#[]⟩ : ByteArray), .string (⟨#[]⟩ : ByteArray), .int .i64 0, .string (⟨#[]⟩ : ByteArray), .string (⟨#[]⟩ : ByteArray)] 72 (0, 0))) ∧ (w.heap.size ≤ s_) ∧ (w.heap.size ≤ s_) ∧ (gb1a1 ≠ s_) ∧ (s_ ≠ gb1a1) ∧ (gb6a1 ≠ s_) ∧ (s_ ≠ gb6a1) ∧ (Below w.heap.size w w')) ?_ ?_
              rotate_left
              ·intro hCont
               refine two_ (i := 2) (j := 4) (Ni := some 72) (Nj := some 13) (bz 6 7) (bz 6 19) rfl rfl rfl rfl (by kernel_rfl) (by decide) (by decide) (fun K hK => ?_) (fun K hK => ?_)
               ·skip
                refine gS Tryz.func93 #[.string t12] ?_
                with_reducible refine (target_Clean.calls kj21 t12 t17 _ A22.out).mono ?_
                rintro e w34s1 ⟨rfl, hb⟩
                refine ⟨_, rfl, ?_⟩
                replace BK1a1 := kM BK1a1 hb; replace BK6a1 := kM BK6a1 hb; replace HB := bS bE hb; (try clear hb)
                refine hK.out _ _ (bkc3_ BK6a1) (fun hHeld => ?_)
                clear hK K
                refine nA 72 ?_
                refine pA (i := 3) (N := some 73) (bz 6 15) (by kernel_rfl) ?_
                refine one_ (i := 4) (N := some 13) (bz 6 31) rfl rfl (by kernel_rfl) (by decide) (fun K hK => ?_)
                refine box_step ?hg (N := 13) ?hd (cs := #[.string (⟨#[]⟩ : ByteArray), .string (⟨#[]⟩ : ByteArray), .int .i64 0, .string (⟨#[]⟩ : ByteArray), .string (⟨#[]⟩ : ByteArray)]) (t := 72) ?hr ?_; (case hd => rfl); (case hg => rfl); (case hr => first | (go_simp; done) | (go_simp; rfl))
                intro gb43s1 hg w43s2 hbox hb
                have BK43s1 := Aside0.mk (hbox); have GW43s1 := sE (w := w) hg; have GE43s1 := sE (w := w) hg; have NB1a1_43s1 := neL BK1a1 hg; have NB43s1_1a1 := neG BK1a1 hg; have NB6a1_43s1 := neL BK6a1 hg; have NB43s1_6a1 := neG BK6a1 hg; replace BK1a1 := kM BK1a1 hb; replace BK6a1 := kM BK6a1 hb; replace HB := bS bE hb; clear hb hbox hg
                refine hK.out _ _ (bkc3_ BK6a1) (fun hHeld => ?_)
                clear hK K
                refine nA 13 ?_
                exact norm_ (by simp only [putAll, Act.put, List.setIfInBounds_toArray, List.set_cons_zero, List.set_cons_succ]) (hCont (gb43s1) _ ⟨hHeld, (kC BK1a1), (kC BK6a1), (kC BK43s1), GW43s1.out, GE43s1.out, NB1a1_43s1.out, NB43s1_1a1.out, NB6a1_43s1.out, NB43s1_6a1.out, bE⟩)
               ·skip
                refine box_step ?hg (N := 13) ?hd (cs := #[.string (⟨#[]⟩ : ByteArray), .string (⟨#[]⟩ : ByteArray), .int .i64 0, .string (⟨#[]⟩ : ByteArray), .string (⟨#[]⟩ : ByteArray)]) (t := 72) ?hr ?_; (case hd => rfl); (case hg => rfl); (case hr => first | (go_simp; done) | (go_simp; rfl))
                intro gb43s1 hg w34s1 hbox hb
                have BK43s1 := Aside0.mk (hbox); have GW43s1 := sE (w := w) hg; have GE43s1 := sE (w := w) hg; have NB1a1_43s1 := neL BK1a1 hg; have NB43s1_1a1 := neG BK1a1 hg; have NB6a1_43s1 := neL BK6a1 hg; have NB43s1_6a1 := neG BK6a1 hg; replace BK1a1 := kM BK1a1 hb; replace BK6a1 := kM BK6a1 hb; replace HB := bS bE hb; clear hb hbox hg
                refine hK.out _ _ (bkc3_ BK6a1) (fun hHeld => ?_)
                clear hK K
                refine nA 13 ?_
                refine one_ (i := 2) (N := some 72) (bz 6 23) rfl rfl (by kernel_rfl) (by decide) (fun K hK => ?_)
                refine gS Tryz.func93 #[.string t12] ?_
                with_reducible refine (target_Clean.calls kj21 t12 t17 _ A22.out).mono ?_
                rintro e w43s2 ⟨rfl, hb⟩
                refine ⟨_, rfl, ?_⟩
                replace BK1a1 := kM BK1a1 hb; replace BK6a1 := kM BK6a1 hb; replace BK43s1 := kM BK43s1 hb; replace HB := bS bE hb; (try clear hb)
                refine hK.out _ _ (bkc3_ BK6a1) (fun hHeld => ?_)
                clear hK K
                refine nA 72 ?_
                refine pA (i := 3) (N := some 73) (bz 6 31) (by kernel_rfl) ?_
                exact norm_ (by simp only [putAll, Act.put, List.setIfInBounds_toArray, List.set_cons_zero, List.set_cons_succ]) (hCont (gb43s1) _ ⟨hHeld, (kC BK1a1), (kC BK6a1), (kC BK43s1), GW43s1.out, GE43s1.out, NB1a1_43s1.out, NB43s1_1a1.out, NB6a1_43s1.out, NB43s1_6a1.out, bE⟩)
              rintro gb43s1 w67s1 ⟨hS_, h0_, h1_, h2_, h3_, h4_, h5_, h6_, h7_, h8_, h9_⟩
              have n0_ : Aside0 (w67s1.heap[gb1a1]? = some (.cells #[.string (⟨#[]⟩ : ByteArray), .string (⟨#[]⟩ : ByteArray), .int .i64 0, .string (⟨#[]⟩ : ByteArray), .string (⟨#[]⟩ : ByteArray)] 72 (0, 0))) := ⟨h0_⟩
              have n1_ : Aside0 (w67s1.heap[gb6a1]? = some (.cells #[.string t8, .string t9, .int .i64 t10] 70 (0, 0))) := ⟨h1_⟩
              have n2_ : Aside0 (w67s1.heap[gb43s1]? = some (.cells #[.string (⟨#[]⟩ : ByteArray), .string (⟨#[]⟩ : ByteArray), .int .i64 0, .string (⟨#[]⟩ : ByteArray), .string (⟨#[]⟩ : ByteArray)] 72 (0, 0))) := ⟨h2_⟩
              have n3_ : Aside0 (w.heap.size ≤ gb43s1) := ⟨h3_⟩
              have n4_ : Aside0 (w.heap.size ≤ gb43s1) := ⟨h4_⟩
              have n5_ : Aside0 (gb1a1 ≠ gb43s1) := ⟨h5_⟩
              have n6_ : Aside0 (gb43s1 ≠ gb1a1) := ⟨h6_⟩
              have n7_ : Aside0 (gb6a1 ≠ gb43s1) := ⟨h7_⟩
              have n8_ : Aside0 (gb43s1 ≠ gb6a1) := ⟨h8_⟩
              have n9_ : Aside0 (Below w.heap.size w w67s1) := ⟨h9_⟩
              clear BK1a1
              clear BK6a1
              clear HB
              clear h0_ h1_ h2_ h3_ h4_ h5_ h6_ h7_ h8_ h9_
              have BK1a1 := n0_
              have BK6a1 := n1_
              have BK43s1 := n2_
              have GW43s1 := n3_
              have GE43s1 := n4_
              have NB1a1_43s1 := n5_
              have NB43s1_1a1 := n6_
              have NB6a1_43s1 := n7_
              have NB43s1_6a1 := n8_
              have HB := n9_
              clear n0_ n1_ n2_ n3_ n4_ n5_ n6_ n7_ n8_ n9_
              have hHeld : w67s1.cell? ⟨gb6a1, 0, none⟩ = some (.string t8) ∧ w67s1.cell? ⟨gb6a1, 1, none⟩ = some (.string t9) ∧ w67s1.cell? ⟨gb6a1, 2, none⟩ = some (.int .i64 t10) := hS_
              refine norm_ (a' := ?_) ?_ ?_
              rotate_left
              ·simp only [putAll, Act.put, List.setIfInBounds_toArray, List.set_cons_zero, List.set_cons_succ]
               rfl
              refine one_ (i := 5) (N := none) (bz 6 63) rfl rfl (by kernel_rfl) (by decide) (fun K hK => ?_)
              have hs99s1 : w67s1.cell? ⟨gb43s1, 0, none⟩ = some (.string (⟨#[]⟩ : ByteArray)) := (blk_cell BK43s1.out 0).trans rfl
              have hfs99s1 := blk_frozen BK43s1.out 0
              have hns99s1_0 := NB1a1_43s1.out
              have hns99s1_1 := NB6a1_43s1.out
              have hms99s1_0 := NB43s1_1a1.out
              have hms99s1_1 := NB43s1_6a1.out
              have hs105s1 : w67s1.cell? ⟨gb43s1, 1, none⟩ = some (.string (⟨#[]⟩ : ByteArray)) := (blk_cell BK43s1.out 1).trans rfl
              have hfs105s1 := blk_frozen BK43s1.out 1
              have hns105s1_0 := NB1a1_43s1.out
              have hns105s1_1 := NB6a1_43s1.out
              have hms105s1_0 := NB43s1_1a1.out
              have hms105s1_1 := NB43s1_6a1.out
              have hs111s1 : w67s1.cell? ⟨gb43s1, 2, none⟩ = some (.int .i64 0) := (blk_cell BK43s1.out 2).trans rfl
              have hfs111s1 := blk_frozen BK43s1.out 2
              have hns111s1_0 := NB1a1_43s1.out
              have hns111s1_1 := NB6a1_43s1.out
              have hms111s1_0 := NB43s1_1a1.out
              have hms111s1_1 := NB43s1_6a1.out
              have hs117s1 : w67s1.cell? ⟨gb43s1, 3, none⟩ = some (.string (⟨#[]⟩ : ByteArray)) := (blk_cell BK43s1.out 3).trans rfl
              have hfs117s1 := blk_frozen BK43s1.out 3
              have hns117s1_0 := NB1a1_43s1.out
              have hns117s1_1 := NB6a1_43s1.out
              have hms117s1_0 := NB43s1_1a1.out
              have hms117s1_1 := NB43s1_6a1.out
              have hs123s1 : w67s1.cell? ⟨gb43s1, 4, none⟩ = some (.string (⟨#[]⟩ : ByteArray)) := (blk_cell BK43s1.out 4).trans rfl
              have hfs123s1 := blk_frozen BK43s1.out 4
              have hns123s1_0 := NB1a1_43s1.out
              have hns123s1_1 := NB6a1_43s1.out
              have hms123s1_0 := NB43s1_1a1.out
              have hms123s1_1 := NB43s1_6a1.out
              refine skip_ (w1 := ?_) (by rfl) rfl ?_ ?_
              rotate_left
              ·go_simp
               rfl
              refine hK.out _ _ ⟨((cell_far (p := ⟨gb43s1, _, none⟩) NB6a1_43s1.out _).trans (((cell_far (p := ⟨gb43s1, _, none⟩) NB6a1_43s1.out _).trans (((cell_far (p := ⟨gb43s1, _, none⟩) NB6a1_43s1.out _).trans (((cell_far (p := ⟨gb43s1, _, none⟩) NB6a1_43s1.out _).trans (((cell_far (p := ⟨gb43s1, _, none⟩) NB6a1_43s1.out _).trans (hHeld.1)))))))))), ((cell_far (p := ⟨gb43s1, _, none⟩) NB6a1_43s1.out _).trans (((cell_far (p := ⟨gb43s1, _, none⟩) NB6a1_43s1.out _).trans (((cell_far (p := ⟨gb43s1, _, none⟩) NB6a1_43s1.out _).trans (((cell_far (p := ⟨gb43s1, _, none⟩) NB6a1_43s1.out _).trans (((cell_far (p := ⟨gb43s1, _, none⟩) NB6a1_43s1.out _).trans (hHeld.2.1)))))))))), ((cell_far (p := ⟨gb43s1, _, none⟩) NB6a1_43s1.out _).trans (((cell_far (p := ⟨gb43s1, _, none⟩) NB6a1_43s1.out _).trans (((cell_far (p := ⟨gb43s1, _, none⟩) NB6a1_43s1.out _).trans (((cell_far (p := ⟨gb43s1, _, none⟩) NB6a1_43s1.out _).trans (((cell_far (p := ⟨gb43s1, _, none⟩) NB6a1_43s1.out _).trans (hHeld.2.2))))))))))⟩ (fun hHeld => ?_)
              clear hK K
              refine done_ (by kernel_rfl) ?_
              have hnb136s1 := NB43s1_1a1.out
              have hnc136s1 := NB1a1_43s1.out
              have hnb138s1 := NB43s1_6a1.out
              have hnc138s1 := NB6a1_43s1.out
              obtain ⟨z140s1_0, z140s1_1, z140s1_2, z140s1_3, z140s1_4, zf140s1_0, zf140s1_1, zf140s1_2, zf140s1_3, zf140s1_4⟩ := bk5_ BK43s1
              have z141s1_ : Aside0 ((((((w67s1.setCell ⟨gb43s1, 0, none⟩ (.string t8)).setCell ⟨gb43s1, 1, none⟩ (.string t9)).setCell ⟨gb43s1, 2, none⟩ (.int .i64 t10)).setCell ⟨gb43s1, 3, none⟩ (.string t17)).setCell ⟨gb43s1, 4, none⟩ (.string (⟨#[]⟩ : ByteArray))).heap[gb1a1]? = some (.cells #[.string (⟨#[]⟩ : ByteArray), .string (⟨#[]⟩ : ByteArray), .int .i64 0, .string (⟨#[]⟩ : ByteArray), .string (⟨#[]⟩ : ByteArray)] 72 (0, 0))) := ⟨by refine blk_far ?_ NB1a1_43s1.out _; refine blk_far ?_ NB1a1_43s1.out _; refine blk_far ?_ NB1a1_43s1.out _; refine blk_far ?_ NB1a1_43s1.out _; refine blk_far ?_ NB1a1_43s1.out _; exact BK1a1.out⟩
              have z142s1_ : Aside0 ((((((w67s1.setCell ⟨gb43s1, 0, none⟩ (.string t8)).setCell ⟨gb43s1, 1, none⟩ (.string t9)).setCell ⟨gb43s1, 2, none⟩ (.int .i64 t10)).setCell ⟨gb43s1, 3, none⟩ (.string t17)).setCell ⟨gb43s1, 4, none⟩ (.string (⟨#[]⟩ : ByteArray))).heap[gb6a1]? = some (.cells #[.string t8, .string t9, .int .i64 t10] 70 (0, 0))) := ⟨by refine blk_far ?_ NB6a1_43s1.out _; refine blk_far ?_ NB6a1_43s1.out _; refine blk_far ?_ NB6a1_43s1.out _; refine blk_far ?_ NB6a1_43s1.out _; refine blk_far ?_ NB6a1_43s1.out _; exact BK6a1.out⟩
              have z143s1_ : Aside0 ((((((w67s1.setCell ⟨gb43s1, 0, none⟩ (.string t8)).setCell ⟨gb43s1, 1, none⟩ (.string t9)).setCell ⟨gb43s1, 2, none⟩ (.int .i64 t10)).setCell ⟨gb43s1, 3, none⟩ (.string t17)).setCell ⟨gb43s1, 4, none⟩ (.string (⟨#[]⟩ : ByteArray))).heap[gb43s1]? = some (.cells #[.string t8, .string t9, .int .i64 t10, .string t17, .string (⟨#[]⟩ : ByteArray)] 72 (0, 0))) := ⟨by refine blk_put (cs := #[.string t8, .string t9, .int .i64 t10, .string t17, .string (⟨#[]⟩ : ByteArray)]) ?_ 4 _ rfl; refine blk_put (cs := #[.string t8, .string t9, .int .i64 t10, .string (⟨#[]⟩ : ByteArray), .string (⟨#[]⟩ : ByteArray)]) ?_ 3 _ rfl; refine blk_put (cs := #[.string t8, .string t9, .int .i64 0, .string (⟨#[]⟩ : ByteArray), .string (⟨#[]⟩ : ByteArray)]) ?_ 2 _ rfl; refine blk_put (cs := #[.string t8, .string (⟨#[]⟩ : ByteArray), .int .i64 0, .string (⟨#[]⟩ : ByteArray), .string (⟨#[]⟩ : ByteArray)]) ?_ 1 _ rfl; refine blk_put (cs := #[.string (⟨#[]⟩ : ByteArray), .string (⟨#[]⟩ : ByteArray), .int .i64 0, .string (⟨#[]⟩ : ByteArray), .string (⟨#[]⟩ : ByteArray)]) ?_ 0 _ rfl; exact BK43s1.out⟩
              have zB_ : Aside0 (Below w.heap.size w (((((w67s1.setCell ⟨gb43s1, 0, none⟩ (.string t8)).setCell ⟨gb43s1, 1, none⟩ (.string t9)).setCell ⟨gb43s1, 2, none⟩ (.int .i64 t10)).setCell ⟨gb43s1, 3, none⟩ (.string t17)).setCell ⟨gb43s1, 4, none⟩ (.string (⟨#[]⟩ : ByteArray)))) := ⟨by refine below_set ?_ GE43s1.out; refine below_set ?_ GE43s1.out; refine below_set ?_ GE43s1.out; refine below_set ?_ GE43s1.out; refine below_set ?_ GE43s1.out; exact HB.out⟩
              clear BK1a1 BK6a1 BK43s1 HB
              try clear hHeld
              try clear zf140s1_4
              try clear zf140s1_3
              try clear zf140s1_2
              try clear zf140s1_1
              try clear zf140s1_0
              try clear z140s1_4
              try clear z140s1_3
              try clear z140s1_2
              try clear z140s1_1
              try clear z140s1_0
              try clear hnc138s1
              try clear hnb138s1
              try clear hnc136s1
              try clear hnb136s1
              try clear hms123s1_1
              try clear hms123s1_0
              try clear hns123s1_1
              try clear hns123s1_0
              try clear hfs123s1
              try clear hs123s1
              try clear hms117s1_1
              try clear hms117s1_0
              try clear hns117s1_1
              try clear hns117s1_0
              try clear hfs117s1
              try clear hs117s1
              try clear hms111s1_1
              try clear hms111s1_0
              try clear hns111s1_1
              try clear hns111s1_0
              try clear hfs111s1
              try clear hs111s1
              try clear hms105s1_1
              try clear hms105s1_0
              try clear hns105s1_1
              try clear hns105s1_0
              try clear hfs105s1
              try clear hs105s1
              try clear hms99s1_1
              try clear hms99s1_0
              try clear hns99s1_1
              try clear hns99s1_0
              try clear hfs99s1
              try clear hs99s1
              have BK1a1 := z141s1_
              have BK6a1 := z142s1_
              have BK43s1 := z143s1_
              have HB := zB_
              clear z141s1_ z142s1_ z143s1_ zB_
              first
              | clear M15_0
                generalize (((((w67s1.setCell ⟨gb43s1, 0, none⟩ (.string t8)).setCell ⟨gb43s1, 1, none⟩ (.string t9)).setCell ⟨gb43s1, 2, none⟩ (.int .i64 t10)).setCell ⟨gb43s1, 3, none⟩ (.string t17)).setCell ⟨gb43s1, 4, none⟩ (.string (⟨#[]⟩ : ByteArray))) = wz1 at BK1a1 BK6a1 BK43s1 HB ⊢
                have hzz141s1_0 : wz1.cell? ⟨gb1a1, 0, none⟩ = some (.string (⟨#[]⟩ : ByteArray)) := (blk_cell BK1a1.out 0).trans rfl
                have hzz141s1_1 : wz1.cell? ⟨gb1a1, 1, none⟩ = some (.string (⟨#[]⟩ : ByteArray)) := (blk_cell BK1a1.out 1).trans rfl
                have hzz141s1_2 : wz1.cell? ⟨gb1a1, 2, none⟩ = some (.int .i64 0) := (blk_cell BK1a1.out 2).trans rfl
                have hzz141s1_3 : wz1.cell? ⟨gb1a1, 3, none⟩ = some (.string (⟨#[]⟩ : ByteArray)) := (blk_cell BK1a1.out 3).trans rfl
                have hzz141s1_4 : wz1.cell? ⟨gb1a1, 4, none⟩ = some (.string (⟨#[]⟩ : ByteArray)) := (blk_cell BK1a1.out 4).trans rfl
                have hzf141s1_0 := blk_frozen BK1a1.out 0
                have hzf141s1_1 := blk_frozen BK1a1.out 1
                have hzf141s1_2 := blk_frozen BK1a1.out 2
                have hzf141s1_3 := blk_frozen BK1a1.out 3
                have hzf141s1_4 := blk_frozen BK1a1.out 4
                have hzz142s1_0 : wz1.cell? ⟨gb6a1, 0, none⟩ = some (.string t8) := (blk_cell BK6a1.out 0).trans rfl
                have hzz142s1_1 : wz1.cell? ⟨gb6a1, 1, none⟩ = some (.string t9) := (blk_cell BK6a1.out 1).trans rfl
                have hzz142s1_2 : wz1.cell? ⟨gb6a1, 2, none⟩ = some (.int .i64 t10) := (blk_cell BK6a1.out 2).trans rfl
                have hzf142s1_0 := blk_frozen BK6a1.out 0
                have hzf142s1_1 := blk_frozen BK6a1.out 1
                have hzf142s1_2 := blk_frozen BK6a1.out 2
                have hzz143s1_0 : wz1.cell? ⟨gb43s1, 0, none⟩ = some (.string t8) := (blk_cell BK43s1.out 0).trans rfl
                have hzz143s1_1 : wz1.cell? ⟨gb43s1, 1, none⟩ = some (.string t9) := (blk_cell BK43s1.out 1).trans rfl
                have hzz143s1_2 : wz1.cell? ⟨gb43s1, 2, none⟩ = some (.int .i64 t10) := (blk_cell BK43s1.out 2).trans rfl
                have hzz143s1_3 : wz1.cell? ⟨gb43s1, 3, none⟩ = some (.string t17) := (blk_cell BK43s1.out 3).trans rfl
                have hzz143s1_4 : wz1.cell? ⟨gb43s1, 4, none⟩ = some (.string (⟨#[]⟩ : ByteArray)) := (blk_cell BK43s1.out 4).trans rfl
                have hzf143s1_0 := blk_frozen BK43s1.out 0
                have hzf143s1_1 := blk_frozen BK43s1.out 1
                have hzf143s1_2 := blk_frozen BK43s1.out 2
                have hzf143s1_3 := blk_frozen BK43s1.out 3
                have hzf143s1_4 := blk_frozen BK43s1.out 4
                have hzn141s1 := NB1a1_43s1.out
                have hzm141s1 := NB43s1_1a1.out
                have hzn142s1 := NB6a1_43s1.out
                have hzm142s1 := NB43s1_6a1.out
                try go_wp2_with (first | ((with_reducible refine gate_callee (f := 94) rfl ?_); refine gL (some 79) Tryz.func94 #[.agg #[.string t8, .string t9, .int .i64 t10, .string t17, .string ((⟨#[63]⟩ : ByteArray) ++ t15)]] ?_; (with_reducible refine (target_show.calls kj21 t8 t9 t10 t17 ((⟨#[63]⟩ : ByteArray) ++ t15) t18 _ ?side1 A25.out).mono ?_); (case side1 => exact ⟨lE⟩); rintro e w10a1 ⟨rfl, hb⟩; refine ⟨_, rfl, ?_⟩; have n0_ := kF BK1a1 hb; have n1_ := kF BK6a1 hb; have n2_ := Aside0.mk (blk_below (g := gb43s1) (o := .cells #[.string t8, .string t9, .int .i64 t10, .string t17, .string ((⟨#[63]⟩ : ByteArray) ++ t15)] 72 (0, 0)) (kT) hb); have n3_ := bS bE hb; clear BK1a1; clear BK6a1; clear BK43s1; clear HB; have BK1a1 := n0_; have BK6a1 := n1_; have BK43s1 := n2_; have HB := n3_; clear n0_ n1_ n2_ n3_; (try clear hb); (try clear hb1); (try clear hk); (try clear hi); have hnb10a2 := NB1a1_6a1.out; have hnc10a2 := NB6a1_1a1.out; obtain ⟨z10a3_0, z10a3_1, z10a3_2, z10a3_3, z10a3_4, zf10a3_0, zf10a3_1, zf10a3_2, zf10a3_3, zf10a3_4⟩ := bk5_ BK1a1))
                refine bodyPost_ret (results_ct rfl _ _ gb1a1 72 #[.string (⟨#[]⟩ : ByteArray), .string (⟨#[]⟩ : ByteArray), .int .i64 0, .string (⟨#[]⟩ : ByteArray), .string (⟨#[]⟩ : ByteArray)] (0, 0) _ rfl (kT) Tryz.underlying72 rfl (by kernel_rfl)) rfl ?_
                exact ⟨rE, bE⟩
              | clear M15_1
                generalize (((((w67s1.setCell ⟨gb43s1, 0, none⟩ (.string t8)).setCell ⟨gb43s1, 1, none⟩ (.string t9)).setCell ⟨gb43s1, 2, none⟩ (.int .i64 t10)).setCell ⟨gb43s1, 3, none⟩ (.string t17)).setCell ⟨gb43s1, 4, none⟩ (.string (⟨#[]⟩ : ByteArray))) = wz2 at BK1a1 BK6a1 BK43s1 HB ⊢
                have hzz141s1_0 : wz2.cell? ⟨gb1a1, 0, none⟩ = some (.string (⟨#[]⟩ : ByteArray)) := (blk_cell BK1a1.out 0).trans rfl
                have hzz141s1_1 : wz2.cell? ⟨gb1a1, 1, none⟩ = some (.string (⟨#[]⟩ : ByteArray)) := (blk_cell BK1a1.out 1).trans rfl
                have hzz141s1_2 : wz2.cell? ⟨gb1a1, 2, none⟩ = some (.int .i64 0) := (blk_cell BK1a1.out 2).trans rfl
                have hzz141s1_3 : wz2.cell? ⟨gb1a1, 3, none⟩ = some (.string (⟨#[]⟩ : ByteArray)) := (blk_cell BK1a1.out 3).trans rfl
                have hzz141s1_4 : wz2.cell? ⟨gb1a1, 4, none⟩ = some (.string (⟨#[]⟩ : ByteArray)) := (blk_cell BK1a1.out 4).trans rfl
                have hzf141s1_0 := blk_frozen BK1a1.out 0
                have hzf141s1_1 := blk_frozen BK1a1.out 1
                have hzf141s1_2 := blk_frozen BK1a1.out 2
                have hzf141s1_3 := blk_frozen BK1a1.out 3
                have hzf141s1_4 := blk_frozen BK1a1.out 4
                have hzz142s1_0 : wz2.cell? ⟨gb6a1, 0, none⟩ = some (.string t8) := (blk_cell BK6a1.out 0).trans rfl
                have hzz142s1_1 : wz2.cell? ⟨gb6a1, 1, none⟩ = some (.string t9) := (blk_cell BK6a1.out 1).trans rfl
                have hzz142s1_2 : wz2.cell? ⟨gb6a1, 2, none⟩ = some (.int .i64 t10) := (blk_cell BK6a1.out 2).trans rfl
                have hzf142s1_0 := blk_frozen BK6a1.out 0
                have hzf142s1_1 := blk_frozen BK6a1.out 1
                have hzf142s1_2 := blk_frozen BK6a1.out 2
                have hzz143s1_0 : wz2.cell? ⟨gb43s1, 0, none⟩ = some (.string t8) := (blk_cell BK43s1.out 0).trans rfl
                have hzz143s1_1 : wz2.cell? ⟨gb43s1, 1, none⟩ = some (.string t9) := (blk_cell BK43s1.out 1).trans rfl
                have hzz143s1_2 : wz2.cell? ⟨gb43s1, 2, none⟩ = some (.int .i64 t10) := (blk_cell BK43s1.out 2).trans rfl
                have hzz143s1_3 : wz2.cell? ⟨gb43s1, 3, none⟩ = some (.string t17) := (blk_cell BK43s1.out 3).trans rfl
                have hzz143s1_4 : wz2.cell? ⟨gb43s1, 4, none⟩ = some (.string (⟨#[]⟩ : ByteArray)) := (blk_cell BK43s1.out 4).trans rfl
                have hzf143s1_0 := blk_frozen BK43s1.out 0
                have hzf143s1_1 := blk_frozen BK43s1.out 1
                have hzf143s1_2 := blk_frozen BK43s1.out 2
                have hzf143s1_3 := blk_frozen BK43s1.out 3
                have hzf143s1_4 := blk_frozen BK43s1.out 4
                have hzn141s1 := NB1a1_43s1.out
                have hzm141s1 := NB43s1_1a1.out
                have hzn142s1 := NB6a1_43s1.out
                have hzm142s1 := NB43s1_6a1.out
                try go_wp2_with (first | ((with_reducible refine gate_callee (f := 94) rfl ?_); refine gL (some 79) Tryz.func94 #[.agg #[.string t8, .string t9, .int .i64 t10, .string t17, .string ((⟨#[63]⟩ : ByteArray) ++ t15)]] ?_; (with_reducible refine (target_show.calls kj21 t8 t9 t10 t17 ((⟨#[63]⟩ : ByteArray) ++ t15) t18 _ ?side1 A25.out).mono ?_); (case side1 => exact ⟨lE⟩); rintro e w10a1 ⟨rfl, hb⟩; refine ⟨_, rfl, ?_⟩; have n0_ := kF BK1a1 hb; have n1_ := kF BK6a1 hb; have n2_ := Aside0.mk (blk_below (g := gb43s1) (o := .cells #[.string t8, .string t9, .int .i64 t10, .string t17, .string ((⟨#[63]⟩ : ByteArray) ++ t15)] 72 (0, 0)) (kT) hb); have n3_ := bS bE hb; clear BK1a1; clear BK6a1; clear BK43s1; clear HB; have BK1a1 := n0_; have BK6a1 := n1_; have BK43s1 := n2_; have HB := n3_; clear n0_ n1_ n2_ n3_; (try clear hb); (try clear hb1); (try clear hk); (try clear hi); obtain ⟨z10a2_0, z10a2_1, z10a2_2, z10a2_3, z10a2_4, zf10a2_0, zf10a2_1, zf10a2_2, zf10a2_3, zf10a2_4⟩ := bk5_ BK43s1; have hnb10a3 := NB1a1_6a1.out; have hnc10a3 := NB6a1_1a1.out; obtain ⟨z10a4_0, z10a4_1, z10a4_2, z10a4_3, z10a4_4, zf10a4_0, zf10a4_1, zf10a4_2, zf10a4_3, zf10a4_4⟩ := bk5_ BK1a1))
                refine bodyPost_ret (results_ct rfl _ _ gb1a1 72 #[.string t8, .string t9, .int .i64 t10, .string t17, .string ((⟨#[63]⟩ : ByteArray) ++ t15)] (0, 0) _ rfl (kT) Tryz.underlying72 rfl (by kernel_rfl)) rfl ?_
                exact ⟨rE, bE⟩
              | clear M15_2
                generalize (((((w67s1.setCell ⟨gb43s1, 0, none⟩ (.string t8)).setCell ⟨gb43s1, 1, none⟩ (.string t9)).setCell ⟨gb43s1, 2, none⟩ (.int .i64 t10)).setCell ⟨gb43s1, 3, none⟩ (.string t17)).setCell ⟨gb43s1, 4, none⟩ (.string (⟨#[]⟩ : ByteArray))) = wz3 at BK1a1 BK6a1 BK43s1 HB ⊢
                have hzz141s1_0 : wz3.cell? ⟨gb1a1, 0, none⟩ = some (.string (⟨#[]⟩ : ByteArray)) := (blk_cell BK1a1.out 0).trans rfl
                have hzz141s1_1 : wz3.cell? ⟨gb1a1, 1, none⟩ = some (.string (⟨#[]⟩ : ByteArray)) := (blk_cell BK1a1.out 1).trans rfl
                have hzz141s1_2 : wz3.cell? ⟨gb1a1, 2, none⟩ = some (.int .i64 0) := (blk_cell BK1a1.out 2).trans rfl
                have hzz141s1_3 : wz3.cell? ⟨gb1a1, 3, none⟩ = some (.string (⟨#[]⟩ : ByteArray)) := (blk_cell BK1a1.out 3).trans rfl
                have hzz141s1_4 : wz3.cell? ⟨gb1a1, 4, none⟩ = some (.string (⟨#[]⟩ : ByteArray)) := (blk_cell BK1a1.out 4).trans rfl
                have hzf141s1_0 := blk_frozen BK1a1.out 0
                have hzf141s1_1 := blk_frozen BK1a1.out 1
                have hzf141s1_2 := blk_frozen BK1a1.out 2
                have hzf141s1_3 := blk_frozen BK1a1.out 3
                have hzf141s1_4 := blk_frozen BK1a1.out 4
                have hzz142s1_0 : wz3.cell? ⟨gb6a1, 0, none⟩ = some (.string t8) := (blk_cell BK6a1.out 0).trans rfl
                have hzz142s1_1 : wz3.cell? ⟨gb6a1, 1, none⟩ = some (.string t9) := (blk_cell BK6a1.out 1).trans rfl
                have hzz142s1_2 : wz3.cell? ⟨gb6a1, 2, none⟩ = some (.int .i64 t10) := (blk_cell BK6a1.out 2).trans rfl
                have hzf142s1_0 := blk_frozen BK6a1.out 0
                have hzf142s1_1 := blk_frozen BK6a1.out 1
                have hzf142s1_2 := blk_frozen BK6a1.out 2
                have hzz143s1_0 : wz3.cell? ⟨gb43s1, 0, none⟩ = some (.string t8) := (blk_cell BK43s1.out 0).trans rfl
                have hzz143s1_1 : wz3.cell? ⟨gb43s1, 1, none⟩ = some (.string t9) := (blk_cell BK43s1.out 1).trans rfl
                have hzz143s1_2 : wz3.cell? ⟨gb43s1, 2, none⟩ = some (.int .i64 t10) := (blk_cell BK43s1.out 2).trans rfl
                have hzz143s1_3 : wz3.cell? ⟨gb43s1, 3, none⟩ = some (.string t17) := (blk_cell BK43s1.out 3).trans rfl
                have hzz143s1_4 : wz3.cell? ⟨gb43s1, 4, none⟩ = some (.string (⟨#[]⟩ : ByteArray)) := (blk_cell BK43s1.out 4).trans rfl
                have hzf143s1_0 := blk_frozen BK43s1.out 0
                have hzf143s1_1 := blk_frozen BK43s1.out 1
                have hzf143s1_2 := blk_frozen BK43s1.out 2
                have hzf143s1_3 := blk_frozen BK43s1.out 3
                have hzf143s1_4 := blk_frozen BK43s1.out 4
                have hzn141s1 := NB1a1_43s1.out
                have hzm141s1 := NB43s1_1a1.out
                have hzn142s1 := NB6a1_43s1.out
                have hzm142s1 := NB43s1_6a1.out
                try go_wp2_with (first | ((with_reducible refine gate_callee (f := 94) rfl ?_); refine gL (some 79) Tryz.func94 #[.agg #[.string t8, .string t9, .int .i64 t10, .string t17, .string (⟨#[]⟩ : ByteArray)]] ?_; (with_reducible refine (target_show.calls kj21 t8 t9 t10 t17 (⟨#[]⟩ : ByteArray) t18 _ ?side1 A24.out).mono ?_); (case side1 => exact ⟨lE⟩); rintro e w11a1 ⟨rfl, hb⟩; refine ⟨_, rfl, ?_⟩; replace BK1a1 := kM BK1a1 hb; replace BK6a1 := kM BK6a1 hb; replace BK43s1 := kM BK43s1 hb; replace HB := bS bE hb; (try clear hb); have hnb11a2 := NB1a1_6a1.out; have hnc11a2 := NB6a1_1a1.out; obtain ⟨z11a3_0, z11a3_1, z11a3_2, z11a3_3, z11a3_4, zf11a3_0, zf11a3_1, zf11a3_2, zf11a3_3, zf11a3_4⟩ := bk5_ BK1a1))
                refine bodyPost_ret (results_ct rfl _ _ gb1a1 72 #[.string (⟨#[]⟩ : ByteArray), .string (⟨#[]⟩ : ByteArray), .int .i64 0, .string (⟨#[]⟩ : ByteArray), .string (⟨#[]⟩ : ByteArray)] (0, 0) _ rfl (kT) Tryz.underlying72 rfl (by kernel_rfl)) rfl ?_
                exact ⟨rE, bE⟩
              | clear M15_3
                generalize (((((w67s1.setCell ⟨gb43s1, 0, none⟩ (.string t8)).setCell ⟨gb43s1, 1, none⟩ (.string t9)).setCell ⟨gb43s1, 2, none⟩ (.int .i64 t10)).setCell ⟨gb43s1, 3, none⟩ (.string t17)).setCell ⟨gb43s1, 4, none⟩ (.string (⟨#[]⟩ : ByteArray))) = wz4 at BK1a1 BK6a1 BK43s1 HB ⊢
                have hzz141s1_0 : wz4.cell? ⟨gb1a1, 0, none⟩ = some (.string (⟨#[]⟩ : ByteArray)) := (blk_cell BK1a1.out 0).trans rfl
                have hzz141s1_1 : wz4.cell? ⟨gb1a1, 1, none⟩ = some (.string (⟨#[]⟩ : ByteArray)) := (blk_cell BK1a1.out 1).trans rfl
                have hzz141s1_2 : wz4.cell? ⟨gb1a1, 2, none⟩ = some (.int .i64 0) := (blk_cell BK1a1.out 2).trans rfl
                have hzz141s1_3 : wz4.cell? ⟨gb1a1, 3, none⟩ = some (.string (⟨#[]⟩ : ByteArray)) := (blk_cell BK1a1.out 3).trans rfl
                have hzz141s1_4 : wz4.cell? ⟨gb1a1, 4, none⟩ = some (.string (⟨#[]⟩ : ByteArray)) := (blk_cell BK1a1.out 4).trans rfl
                have hzf141s1_0 := blk_frozen BK1a1.out 0
                have hzf141s1_1 := blk_frozen BK1a1.out 1
                have hzf141s1_2 := blk_frozen BK1a1.out 2
                have hzf141s1_3 := blk_frozen BK1a1.out 3
                have hzf141s1_4 := blk_frozen BK1a1.out 4
                have hzz142s1_0 : wz4.cell? ⟨gb6a1, 0, none⟩ = some (.string t8) := (blk_cell BK6a1.out 0).trans rfl
                have hzz142s1_1 : wz4.cell? ⟨gb6a1, 1, none⟩ = some (.string t9) := (blk_cell BK6a1.out 1).trans rfl
                have hzz142s1_2 : wz4.cell? ⟨gb6a1, 2, none⟩ = some (.int .i64 t10) := (blk_cell BK6a1.out 2).trans rfl
                have hzf142s1_0 := blk_frozen BK6a1.out 0
                have hzf142s1_1 := blk_frozen BK6a1.out 1
                have hzf142s1_2 := blk_frozen BK6a1.out 2
                have hzz143s1_0 : wz4.cell? ⟨gb43s1, 0, none⟩ = some (.string t8) := (blk_cell BK43s1.out 0).trans rfl
                have hzz143s1_1 : wz4.cell? ⟨gb43s1, 1, none⟩ = some (.string t9) := (blk_cell BK43s1.out 1).trans rfl
                have hzz143s1_2 : wz4.cell? ⟨gb43s1, 2, none⟩ = some (.int .i64 t10) := (blk_cell BK43s1.out 2).trans rfl
                have hzz143s1_3 : wz4.cell? ⟨gb43s1, 3, none⟩ = some (.string t17) := (blk_cell BK43s1.out 3).trans rfl
                have hzz143s1_4 : wz4.cell? ⟨gb43s1, 4, none⟩ = some (.string (⟨#[]⟩ : ByteArray)) := (blk_cell BK43s1.out 4).trans rfl
                have hzf143s1_0 := blk_frozen BK43s1.out 0
                have hzf143s1_1 := blk_frozen BK43s1.out 1
                have hzf143s1_2 := blk_frozen BK43s1.out 2
                have hzf143s1_3 := blk_frozen BK43s1.out 3
                have hzf143s1_4 := blk_frozen BK43s1.out 4
                have hzn141s1 := NB1a1_43s1.out
                have hzm141s1 := NB43s1_1a1.out
                have hzn142s1 := NB6a1_43s1.out
                have hzm142s1 := NB43s1_6a1.out
                try go_wp2_with (first | ((with_reducible refine gate_callee (f := 94) rfl ?_); refine gL (some 79) Tryz.func94 #[.agg #[.string t8, .string t9, .int .i64 t10, .string t17, .string (⟨#[]⟩ : ByteArray)]] ?_; (with_reducible refine (target_show.calls kj21 t8 t9 t10 t17 (⟨#[]⟩ : ByteArray) t18 _ ?side1 A24.out).mono ?_); (case side1 => exact ⟨lE⟩); rintro e w11a1 ⟨rfl, hb⟩; refine ⟨_, rfl, ?_⟩; replace BK1a1 := kM BK1a1 hb; replace BK6a1 := kM BK6a1 hb; replace BK43s1 := kM BK43s1 hb; replace HB := bS bE hb; (try clear hb); obtain ⟨z11a2_0, z11a2_1, z11a2_2, z11a2_3, z11a2_4, zf11a2_0, zf11a2_1, zf11a2_2, zf11a2_3, zf11a2_4⟩ := bk5_ BK43s1; have hnb11a3 := NB1a1_6a1.out; have hnc11a3 := NB6a1_1a1.out; obtain ⟨z11a4_0, z11a4_1, z11a4_2, z11a4_3, z11a4_4, zf11a4_0, zf11a4_1, zf11a4_2, zf11a4_3, zf11a4_4⟩ := bk5_ BK1a1))
                refine bodyPost_ret (results_ct rfl _ _ gb1a1 72 #[.string t8, .string t9, .int .i64 t10, .string t17, .string (⟨#[]⟩ : ByteArray)] (0, 0) _ rfl (kT) Tryz.underlying72 rfl (by kernel_rfl)) rfl ?_
                exact ⟨rE, bE⟩
       | clear M7_1
         go_wp2_with (first | ((with_reducible refine gate_callee (f := 46) rfl ?_); refine gL (some 46) Tryz.func46 #[.string ((t2 ++ (⟨#[58, 47, 47]⟩ : ByteArray)) ++ (t6.extract 0 (x7_8 : Int).toNat))] ?_; (with_reducible refine (origin_Parse.calls kj8 ((t2 ++ (⟨#[58, 47, 47]⟩ : ByteArray)) ++ (t6.extract 0 (x7_8 : Int).toNat)) t8 t9 t10 t11 _ ?side1 A14.out).mono ?_); (case side1 => exact ⟨lE⟩); rintro e w5a1 ⟨rfl, hb⟩; refine ⟨_, rfl, ?_⟩; replace BK1a1 := kM BK1a1 hb; replace HB := bS bE hb; (try clear hb)) | ((with_reducible refine gate_dst (N := 8) rfl ?_); refine bxE (N := 8) (cs := #[.string (⟨#[]⟩ : ByteArray), .string (⟨#[]⟩ : ByteArray), .int .i64 0]) (t := 70) fun gb6a1 hg w6a2 hbox hb => ?_; have BK6a1 := Aside0.mk (hbox); have GW6a1 := sE (w := w) hg; have GE6a1 := sE (w := w) hg; have NB1a1_6a1 := neL BK1a1 hg; have NB6a1_1a1 := neG BK1a1 hg; replace BK1a1 := kM BK1a1 hb; replace HB := bS bE hb; clear hb hbox hg; have hnb6a3 := NB6a1_1a1.out; have hnc6a3 := NB1a1_6a1.out; obtain ⟨z6a4_0, z6a4_1, z6a4_2, zf6a4_0, zf6a4_1, zf6a4_2⟩ := bk3_ BK6a1; obtain ⟨z6a5_0, z6a5_1, z6a5_2, z6a5_3, z6a5_4, zf6a5_0, zf6a5_1, zf6a5_2, zf6a5_3, zf6a5_4⟩ := bk5_ BK1a1))
         refine bodyPost_ret (results_ct rfl _ _ gb1a1 72 #[.string (⟨#[]⟩ : ByteArray), .string (⟨#[]⟩ : ByteArray), .int .i64 0, .string (⟨#[]⟩ : ByteArray), .string (⟨#[]⟩ : ByteArray)] (0, 0) _ rfl (kT) Tryz.underlying72 rfl (by kernel_rfl)) rfl ?_
         exact ⟨rE, bE⟩

end Go.Proofs.YtfmajangcbgooaaGreatDoor.Pr
