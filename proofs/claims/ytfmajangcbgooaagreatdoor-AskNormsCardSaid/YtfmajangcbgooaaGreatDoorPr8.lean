-- Made by a program of this session (wip/xp/xp.py), over the print's words.
import Derived.Test.YtfmajangcbgooaaGreatDoorPr0
import Derived.Test.YtfmajangcbgooaaGreatDoorK0
import Derived.Test.YtfmajangcbgooaaGreatDoorPr7
import Derived.Test.YtfmajangcbgooaaGreatDoorG5
namespace Go.Proofs.YtfmajangcbgooaaGreatDoor.Pr
open Go.RowKit Go.Proofs.YtfmajangcbgooaaGreatDoorW.PrintWords Go.Proofs.YtfmajangcbgooaaGreatDoorW.PrintLast Go.Proofs.YtfmajangcbgooaaGreatDoorW.PrintMore
attribute [local go_sem] max2_int min2_int max_two min_two max_three min_three max_four min_four   -- for this text's walks alone
set_option linter.unusedVariables false
set_option linter.unusedSimpArgs false

/-! ### target_show: function 94 -/
def target_show.f (k : Nat) (a0_0 : ByteArray) (a0_1 : ByteArray) (a0_2 : Int) (a0_3 : ByteArray) (a0_4 : ByteArray) : Option (ByteArray) := (origin_Show.f k a0_0 a0_1 a0_2).bind fun t157 => (if t157.size + a0_3.size ≤ 9223372036854775807 then (if (t157 ++ a0_3).size + a0_4.size ≤ 9223372036854775807 then (some ((t157 ++ a0_3) ++ a0_4)) else (none)) else (none))
theorem target_show.mono : ∀ a0 a1 a2 a3 a4 k, LeO (target_show.f k a0 a1 a2 a3 a4) (target_show.f (k + 1) a0 a1 a2 a3 a4) := by
 intro a0 a1 a2 a3 a4 k
 have hm0 := @origin_Show.mono; unfold target_show.f
 exact moE

def target_show.T1 : Bool × List (List Nat × List Nat) := (true, [([], []), ([0], [0]), ([1], [1]), ([], []), ([3], [3]), ([2, 4], [2, 4]), ([], []), ([6], [6]), ([5, 7], [5, 7]), ([8, 2, 0, 1, 2, 3, 4, 5, 6, 7, 8], [8])])
def target_show.B1 : List Nat := [0, 1, 3, 0, 8, 31, 0, 64, 255, 511]
theorem target_show.tab1 : rtab .any (opsOf Tryz.f94 1) = target_show.T1 := by kernel_rfl
theorem target_show.bits1 : waitsOk target_show.T1.2 target_show.B1 = true := by kernel_rfl
set_option maxHeartbeats 8000000 in
set_option maxRecDepth 100000 in
theorem target_show.calls (k : Nat) (a0_0 : ByteArray) (a0_1 : ByteArray) (a0_2 : Int) (a0_3 : ByteArray) (a0_4 : ByteArray) (r : ByteArray) (w : World) (hM_ : Aside0 (LaidW w)) (h : target_show.f k a0_0 a0_1 a0_2 a0_3 a0_4 = some r) :
  Calls Tryz.prog 94 #[.agg #[.string a0_0, .string a0_1, .int .i64 a0_2, .string a0_3, .string a0_4]] w fun e w' => e = .returned (.string r) ∧ Below w.heap.size w w' := by
 have hu72 := Tryz.underlying72
 have hu70 := Tryz.underlying70
 have HB := Aside0.mk (Below.refl w.heap.size w)
 have H : ((origin_Show.f k a0_0 a0_1 a0_2).bind fun t1 => (if t1.size + a0_3.size ≤ 9223372036854775807 then (if (t1 ++ a0_3).size + a0_4.size ≤ 9223372036854775807 then (some ((t1 ++ a0_3) ++ a0_4)) else (none)) else (none))) = some r := h
 clear h
 replace H := bd_ H; obtain ⟨t1, A1, H⟩ := H
 replace H := iteN_ H; obtain ⟨c2, H⟩ := H
 have c2b0 := eq_true c2
 have c2b1 : decide (t1.size + a0_3.size ≤ 9223372036854775807) = true := decide_eq_true c2
 try have c2b2 : (9223372036854775807 < t1.size + a0_3.size) = False := eq_false (Nat.not_lt.2 c2)
 replace H := iteN_ H; obtain ⟨c3, H⟩ := H
 try (have c3b5 := c3; simp only [ByteArray.size_append, Int.natCast_add] at c3b5)
 have c3b0 := eq_true c3
 have c3b1 : decide ((t1 ++ a0_3).size + a0_4.size ≤ 9223372036854775807) = true := decide_eq_true c3
 try have c3b2 : (9223372036854775807 < (t1 ++ a0_3).size + a0_4.size) = False := eq_false (Nat.not_lt.2 c3)
 try have c3b3 : (9223372036854775807 < t1.size + a0_3.size + a0_4.size) = False := eq_false (Nat.not_lt.2 (by have z_ := c3; simp only [ByteArray.size_append] at z_; first | exact z_ | simpa using z_))
 obtain rfl := si_ H
 go_enter Tryz.func94, Tryz.ntmps94
 try go_wp2_with (first | ((with_reducible refine gate_dst (N := 1) rfl ?_); refine bxE (N := 1) (cs := #[.string a0_0, .string a0_1, .int .i64 a0_2, .string a0_3, .string a0_4]) (t := 72) fun gb1a1 hg w1a2 hbox hb => ?_; obtain ⟨HB', BK1a1, GW1a1⟩ := bx_ bE hg hbox hb; have GE1a1 := GW1a1; clear HB hb hbox hg; have HB := HB'; clear HB'))
 have n0_ := Aside0.mk (blk_drew BK1a1.out)
 have n1_ := Aside0.mk (below_drew1 HB.out)
 clear BK1a1
 clear HB
 have BK1a1 := n0_
 have HB := n1_
 clear n0_ n1_
 refine start_ (n := 10) (S := fun w' => w'.cell? ⟨gb1a1, 0, none⟩ = some (.string a0_0) ∧ w'.cell? ⟨gb1a1, 1, none⟩ = some (.string a0_1) ∧ w'.cell? ⟨gb1a1, 2, none⟩ = some (.int .i64 a0_2) ∧ w'.cell? ⟨gb1a1, 3, none⟩ = some (.string a0_3) ∧ w'.cell? ⟨gb1a1, 4, none⟩ = some (.string a0_4)) (ds := []) (bz 10 0) (by kernel_rfl) rfl rfl (bkc5_ BK1a1) (fun hHeld => ?_); refine with_tabW target_show.tab1 target_show.bits1 (fun HT_ HW_ => ?_)
 generalize w1a2.drew = w11s1 at BK1a1 HB hHeld ⊢
 refine pA (i := 0) (N := some 3) (bz 10 1) (any_of HT_.out (by kernel_rfl)) ?_
 refine pA (i := 3) (N := some 6) (bz 10 9) (any_of HT_.out (by kernel_rfl)) ?_
 refine pA (i := 6) (N := some 9) (bz 10 73) (any_of HT_.out (by kernel_rfl)) ?_
 refine tA5 (i := 1) (N := some 4) (bz 10 75) (take_ofW HT_.out HW_.out (by kernel_rfl)) hHeld ?_
 refine tA5 (i := 4) (N := some 7) (bz 10 91) (take_ofW HT_.out HW_.out (by kernel_rfl)) hHeld ?_
 refine tA5 (i := 7) (N := some 10) (bz 10 219) (take_ofW HT_.out HW_.out (by kernel_rfl)) hHeld ?_
 refine one_ (i := 2) (N := some 5) (bz 10 223) rfl rfl (one_of HT_.out (by kernel_rfl)) (by decide) (fun K hK => ?_)
 refine gS Tryz.func59 #[.agg #[.string a0_0, .string a0_1, .int .i64 a0_2]] ?_
 with_reducible refine (origin_Show.calls k a0_0 a0_1 a0_2 t1 _ ?side1 A1.out).mono ?_
 (case side1 => exact ⟨lE⟩)
 rintro e w22s1 ⟨rfl, hb⟩
 refine ⟨_, rfl, ?_⟩
 replace BK1a1 := kM BK1a1 hb; replace HB := bS bE hb; (try clear hb)
 refine hK.out _ _ (bkc5_ BK1a1) (fun hHeld => ?_)
 clear hK K
 refine nA 5 ?_
 refine pA (i := 5) (N := some 8) (bz 10 255) (any_of HT_.out (by kernel_rfl)) ?_
 refine pA (i := 8) (N := some 11) (bz 10 511) (any_of HT_.out (by kernel_rfl)) ?_
 refine pA (i := 9) (N := some 2) (bz 10 1023) (any_of HT_.out (by kernel_rfl)) ?_
 refine done_ (done_of HT_.out (by kernel_rfl)) ?_
 try go_wp2
 go_ret
 exact ⟨rE, bE⟩

end Go.Proofs.YtfmajangcbgooaaGreatDoor.Pr
