-- Made by a program of this session (wip/xp/xp.py), over the print's words.
import Derived.Test.YtfmajangcbgooaaGreatDoorPr0
import Derived.Test.YtfmajangcbgooaaGreatDoorK0
import Derived.Test.YtfmajangcbgooaaGreatDoorPr13
import Derived.Test.YtfmajangcbgooaaGreatDoorPr16
import Derived.Test.YtfmajangcbgooaaGreatDoorG2
import Derived.Test.YtfmajangcbgooaaGreatDoorG5
namespace Go.Proofs.YtfmajangcbgooaaGreatDoor.Pr
open Go.RowKit Go.Proofs.YtfmajangcbgooaaGreatDoorW.PrintWords Go.Proofs.YtfmajangcbgooaaGreatDoorW.PrintLast Go.Proofs.YtfmajangcbgooaaGreatDoorW.PrintMore
attribute [local go_sem] max2_int min2_int max_two min_two max_three min_three max_four min_four   -- for this text's walks alone
set_option linter.unusedVariables false
set_option linter.unusedSimpArgs false

/-! ### ask_Names: function 24 -/
def ask_Names.f (k : Nat) (a0_0 : ByteArray) (a0_1 : ByteArray) (a0_2 : ByteArray) (a0_3 : Int) (a0_4 : Bool) (l0_5 : List (S28)) (a0_6 : Int) (a0_7 : Int) (a0_8 : Int) (a0_9 : Int) : Option (List ByteArray) := (ask_Check.f k a0_0 a0_1 a0_2 a0_3 a0_4 l0_5 a0_6 a0_7 a0_8 a0_9).bind fun t393 => (if t393 = 0 then ((safe_Names.f k l0_5).bind fun t394 => (some t394)) else (some ([] : List ByteArray)))
theorem ask_Names.mono : ∀ a0 a1 a2 a3 a4 a5 a6 a7 a8 a9 k, LeO (ask_Names.f k a0 a1 a2 a3 a4 a5 a6 a7 a8 a9) (ask_Names.f (k + 1) a0 a1 a2 a3 a4 a5 a6 a7 a8 a9) := by
 intro a0 a1 a2 a3 a4 a5 a6 a7 a8 a9 k
 have hm0 := @ask_Check.mono; have hm1 := @safe_Names.mono; unfold ask_Names.f
 exact moE

set_option maxHeartbeats 8000000 in
set_option maxRecDepth 100000 in
theorem ask_Names.calls (k : Nat) (a0_0 : ByteArray) (a0_1 : ByteArray) (a0_2 : ByteArray) (a0_3 : Int) (a0_4 : Bool) (A0_5 : Option Addr) (c0_5 : Nat) (l0_5 : List (S28)) (a0_6 : Int) (a0_7 : Int) (a0_8 : Int) (a0_9 : Int) (r : List ByteArray) (w : World) (hr0_5 : Kd.C k28 w A0_5 l0_5.length l0_5) (hc0_5 : l0_5.length ≤ c0_5) (hM_ : Aside0 (LaidW w)) (h : ask_Names.f k a0_0 a0_1 a0_2 a0_3 a0_4 l0_5 a0_6 a0_7 a0_8 a0_9 = some r) :
  Calls Tryz.prog 24 #[.agg #[.string a0_0, .string a0_1, .string a0_2, .int .i64 a0_3, .bool a0_4, .slice A0_5 l0_5.length c0_5, .int .i64 a0_6, .int .u64 a0_7, .int .i64 a0_8, .int .i64 a0_9]] w fun e w' => ∃ v0_ : Value, e = .returned (v0_) ∧ Kd.R Kd.string 9 w' w.heap.size (fun _ => True) v0_ r ∧ Below w.heap.size w w' := by
 have hu26 := Tryz.underlying26
 have HR1_5 := Aside0.mk hr0_5
 have HC1_5 := Aside0.mk hc0_5
 clear hr0_5 hc0_5
 have HB := Aside0.mk (Below.refl w.heap.size w)
 have H : ((ask_Check.f k a0_0 a0_1 a0_2 a0_3 a0_4 l0_5 a0_6 a0_7 a0_8 a0_9).bind fun t1 => (if t1 = 0 then ((safe_Names.f k l0_5).bind fun t2 => (some t2)) else (some ([] : List ByteArray)))) = some r := h
 clear h
 replace H := bd_ H; obtain ⟨t1, A2, H⟩ := H
 refine em_ (t1 = 0) (fun c3 => ?g1p) (fun c3 => ?g1n)
 case' g1p =>
  rw [if_pos c3] at H
  have c3b0 : (t1 == 0) = true := beq_iff_eq.mpr c3
  have c3b1 : (t1 != 0) = false := bne_eq_false_iff_eq.mpr c3
  clear c3
  replace H := bd_ H; obtain ⟨t2, A4, H⟩ := H
  obtain rfl := si_ H
  have M2_0 := trivial
 case' g1n =>
  rw [if_neg c3] at H
  have c3b0 : (t1 == 0) = false := beq_eq_false_iff_ne.mpr c3
  have c3b1 : (t1 != 0) = true := bne_iff_ne.mpr c3
  obtain rfl := si_ H
  have M2_1 := trivial
 all_goals
  go_enter Tryz.func24, Tryz.ntmps24
  go_wp2_with (first | ((with_reducible refine gate_dst (N := 1) rfl ?_); refine bxE (N := 1) (cs := #[.string a0_0, .string a0_1, .string a0_2, .int .i64 a0_3, .bool a0_4, .slice A0_5 l0_5.length c0_5, .int .i64 a0_6, .int .u64 a0_7, .int .i64 a0_8, .int .i64 a0_9]) (t := 26) fun gb1a1 hg w1a2 hbox hb => ?_; obtain ⟨HB', BK1a1, GW1a1⟩ := bx_ bE hg hbox hb; have GE1a1 := GW1a1; clear HB hb hbox hg; have HB := HB'; clear HB'; obtain ⟨z1a3_0, z1a3_1, z1a3_2, z1a3_3, z1a3_4, z1a3_5, z1a3_6, z1a3_7, z1a3_8, z1a3_9, zf1a3_0, zf1a3_1, zf1a3_2, zf1a3_3, zf1a3_4, zf1a3_5, zf1a3_6, zf1a3_7, zf1a3_8, zf1a3_9⟩ := bk10_ BK1a1) | ((with_reducible refine gate_callee (f := 13) rfl ?_); refine gL (some 4) Tryz.func13 #[.agg #[.string a0_0, .string a0_1, .string a0_2, .int .i64 a0_3, .bool a0_4, .slice A0_5 l0_5.length c0_5, .int .i64 a0_6, .int .u64 a0_7, .int .i64 a0_8, .int .i64 a0_9]] ?_; (with_reducible refine (ask_Check.calls k a0_0 a0_1 a0_2 a0_3 a0_4 _ _ l0_5 a0_6 a0_7 a0_8 a0_9 t1 _ ?side1 ?side2 ?side3 A2.out).mono ?_); (case side1 => repeat (first | exact (Kd.C_below HR1_5.out HB.out) | (with_reducible refine Kd.C_alloc ?_ _) | (with_reducible refine Kd.C_drewN ?_ _) | (with_reducible refine Kd.C_drew ?_))); (case side2 => exact HC1_5.out); (case side3 => exact ⟨lE⟩); rintro e w2a1 ⟨rfl, hb⟩; refine ⟨_, rfl, ?_⟩; replace BK1a1 := kM BK1a1 hb; replace HB := bS bE hb; (try clear hb); obtain ⟨z2a2_0, z2a2_1, z2a2_2, z2a2_3, z2a2_4, z2a2_5, z2a2_6, z2a2_7, z2a2_8, z2a2_9, zf2a2_0, zf2a2_1, zf2a2_2, zf2a2_3, zf2a2_4, zf2a2_5, zf2a2_6, zf2a2_7, zf2a2_8, zf2a2_9⟩ := bk10_ BK1a1) | ((with_reducible refine gate_callee (f := 65) rfl ?_); refine gL (some 8) Tryz.func65 #[.slice A0_5 l0_5.length c0_5] ?_; (with_reducible refine (safe_Names.calls k _ _ l0_5 t2 _ ?side1 ?side2 ?side3 A4.out).mono ?_); (case side1 => repeat (first | exact (Kd.C_below HR1_5.out HB.out) | (with_reducible refine Kd.C_alloc ?_ _) | (with_reducible refine Kd.C_drewN ?_ _) | (with_reducible refine Kd.C_drew ?_))); (case side2 => exact HC1_5.out); (case side3 => exact ⟨lE⟩); rintro e w3a1 ⟨v3a2, rfl, ho3a3, hb⟩; refine ⟨_, rfl, ?_⟩; have n0_ := Aside0.mk (Kd.R_lower ho3a3 (below_size bE)); have n1_ := kM BK1a1 hb; have n2_ := bS bE hb; clear BK1a1; clear HB; have HO3a4 := n0_; have BK1a1 := n1_; have HB := n2_; clear n0_ n1_ n2_; (try clear hb); (try clear hb2); (try clear hk); (try clear hi); (try clear ho3a3)))
  go_ret
  first
  | clear M2_0
    exact ⟨_, rE, by (with_reducible repeat (first | apply Kd.R_alloc | apply Kd.R_drewN | apply Kd.R_drew)); exact HO3a4.out, bE⟩
  | clear M2_1
    exact ⟨_, rE, by first | exact Kd.R_nil _ _ _ _ _ | exact Kd.N_nil _ _ _ _ _ | exact Kd.V_nil _ _ _ _ _ | exact Kd.Q_nil _ _ _ _ _ | exact Kd.S_nil _ _ _ _ _, bE⟩

/-! ### ask_Cell: function 29 -/
def ask_Cell.f (k : Nat) (a0_0 : ByteArray) (a0_1 : ByteArray) (a0_2 : ByteArray) (a0_3 : Int) (a0_4 : Bool) (l0_5 : List (S28)) (a0_6 : Int) (a0_7 : Int) (a0_8 : Int) (a0_9 : Int) : Option (ByteArray × ByteArray × Bool) := (ask_Norm.f k a0_0 a0_1 a0_2 a0_3 a0_4 l0_5 a0_6 a0_7 a0_8 a0_9).bind fun bt399 => (some (bt399.2.2.1, bt399.2.1, bt399.2.2.2.2.1))
theorem ask_Cell.mono : ∀ a0 a1 a2 a3 a4 a5 a6 a7 a8 a9 k, LeO (ask_Cell.f k a0 a1 a2 a3 a4 a5 a6 a7 a8 a9) (ask_Cell.f (k + 1) a0 a1 a2 a3 a4 a5 a6 a7 a8 a9) := by
 intro a0 a1 a2 a3 a4 a5 a6 a7 a8 a9 k
 have hm0 := @ask_Norm.mono; unfold ask_Cell.f
 exact moE

set_option maxHeartbeats 8000000 in
set_option maxRecDepth 100000 in
theorem ask_Cell.calls (k : Nat) (a0_0 : ByteArray) (a0_1 : ByteArray) (a0_2 : ByteArray) (a0_3 : Int) (a0_4 : Bool) (A0_5 : Option Addr) (c0_5 : Nat) (l0_5 : List (S28)) (a0_6 : Int) (a0_7 : Int) (a0_8 : Int) (a0_9 : Int) (r1 : ByteArray) (r2 : ByteArray) (r3 : Bool) (w : World) (hr0_5 : Kd.C k28 w A0_5 l0_5.length l0_5) (hc0_5 : l0_5.length ≤ c0_5) (hM_ : Aside0 (LaidW w)) (h : ask_Cell.f k a0_0 a0_1 a0_2 a0_3 a0_4 l0_5 a0_6 a0_7 a0_8 a0_9 = some (r1, r2, r3)) :
  Calls Tryz.prog 29 #[.agg #[.string a0_0, .string a0_1, .string a0_2, .int .i64 a0_3, .bool a0_4, .slice A0_5 l0_5.length c0_5, .int .i64 a0_6, .int .u64 a0_7, .int .i64 a0_8, .int .i64 a0_9]] w fun e w' => e = .returned (.agg #[.string r1, .string r2, .bool r3]) ∧ Below w.heap.size w w' := by
 have hu26 := Tryz.underlying26
 have hu43 := Tryz.underlying43
 have HR1_5 := Aside0.mk hr0_5
 have HC1_5 := Aside0.mk hc0_5
 clear hr0_5 hc0_5
 have HB := Aside0.mk (Below.refl w.heap.size w)
 have H : ((ask_Norm.f k a0_0 a0_1 a0_2 a0_3 a0_4 l0_5 a0_6 a0_7 a0_8 a0_9).bind fun bt1 => (some (bt1.2.2.1, bt1.2.1, bt1.2.2.2.2.1))) = some (r1, r2, r3) := h
 clear h
 replace H := bd_ H; obtain ⟨⟨t1, t2, t3, t4, t5, t6, t7, t8, t9, t10⟩, A2, H⟩ := H
 replace H : (some (t3, t2, t5)) = some (r1, r2, r3) := H
 simp only [Option.some.injEq, Prod.mk.injEq] at H
 obtain ⟨rfl, rfl, rfl⟩ := H
 go_enter Tryz.func29, Tryz.ntmps29
 go_wp2_with (first | ((with_reducible refine gate_dst (N := 1) rfl ?_); refine bxE (N := 1) (cs := #[.string a0_0, .string a0_1, .string a0_2, .int .i64 a0_3, .bool a0_4, .slice A0_5 l0_5.length c0_5, .int .i64 a0_6, .int .u64 a0_7, .int .i64 a0_8, .int .i64 a0_9]) (t := 26) fun gb1a1 hg w1a2 hbox hb => ?_; obtain ⟨HB', BK1a1, GW1a1⟩ := bx_ bE hg hbox hb; have GE1a1 := GW1a1; clear HB hb hbox hg; have HB := HB'; clear HB') | ((with_reducible refine gate_dst (N := 2) rfl ?_); refine bxE (N := 2) (cs := #[.string (⟨#[]⟩ : ByteArray), .string (⟨#[]⟩ : ByteArray), .bool false]) (t := 43) fun gb2a1 hg w2a2 hbox hb => ?_; have BK2a1 := Aside0.mk (hbox); have GW2a1 := sE (w := w) hg; have GE2a1 := sE (w := w) hg; have NB1a1_2a1 := neL BK1a1 hg; have NB2a1_1a1 := neG BK1a1 hg; replace BK1a1 := kM BK1a1 hb; replace HB := bS bE hb; clear hb hbox hg; have hnb2a3 := NB1a1_2a1.out; have hnc2a3 := NB2a1_1a1.out; obtain ⟨z2a4_0, z2a4_1, z2a4_2, z2a4_3, z2a4_4, z2a4_5, z2a4_6, z2a4_7, z2a4_8, z2a4_9, zf2a4_0, zf2a4_1, zf2a4_2, zf2a4_3, zf2a4_4, zf2a4_5, zf2a4_6, zf2a4_7, zf2a4_8, zf2a4_9⟩ := bk10_ BK1a1) | ((with_reducible refine gate_callee (f := 20) rfl ?_); refine gL (some 5) Tryz.func20 #[.agg #[.string a0_0, .string a0_1, .string a0_2, .int .i64 a0_3, .bool a0_4, .slice A0_5 l0_5.length c0_5, .int .i64 a0_6, .int .u64 a0_7, .int .i64 a0_8, .int .i64 a0_9]] ?_; (with_reducible refine (ask_Norm.calls k a0_0 a0_1 a0_2 a0_3 a0_4 _ _ l0_5 a0_6 a0_7 a0_8 a0_9 t1 t2 t3 t4 t5 t6 t7 t8 t9 t10 _ ?side1 ?side2 ?side3 A2.out).mono ?_); (case side1 => repeat (first | exact (Kd.C_below HR1_5.out HB.out) | (with_reducible refine Kd.C_alloc ?_ _) | (with_reducible refine Kd.C_drewN ?_ _) | (with_reducible refine Kd.C_drew ?_))); (case side2 => exact HC1_5.out); (case side3 => exact ⟨lE⟩); rintro e w3a1 ⟨v3a2, rfl, ho3a3, hb⟩; refine ⟨_, rfl, ?_⟩; have n0_ := Aside0.mk (Kd.R_lower ho3a3 (below_size bE)); have n1_ := kM BK1a1 hb; have n2_ := kM BK2a1 hb; have n3_ := bS bE hb; clear BK1a1; clear BK2a1; clear HB; have HO3a4 := n0_; have BK1a1 := n1_; have BK2a1 := n2_; have HB := n3_; clear n0_ n1_ n2_ n3_; (try clear hb); (try clear hb2); (try clear hk); (try clear hi); (try clear ho3a3)) | ((with_reducible refine gate_dst (N := 3) rfl ?_); refine bxE (N := 3) (cs := #[.string (⟨#[]⟩ : ByteArray), .string (⟨#[]⟩ : ByteArray), .string (⟨#[]⟩ : ByteArray), .int .i64 0, .bool false, .slice none 0 0, .int .i64 0, .int .u64 0, .int .i64 0, .int .i64 0]) (t := 26) fun gb4a1 hg w4a2 hbox hb => ?_; have BK4a1 := Aside0.mk (hbox); have GW4a1 := sE (w := w) hg; have GE4a1 := sE (w := w) hg; have NB1a1_4a1 := neL BK1a1 hg; have NB4a1_1a1 := neG BK1a1 hg; have NB2a1_4a1 := neL BK2a1 hg; have NB4a1_2a1 := neG BK2a1 hg; replace HO3a4 := rM HO3a4 hb; replace BK1a1 := kM BK1a1 hb; replace BK2a1 := kM BK2a1 hb; replace HB := bS bE hb; clear hb hbox hg; have hnb4a3 := NB4a1_1a1.out; have hnc4a3 := NB1a1_4a1.out; have hnb4a4 := NB4a1_2a1.out; have hnc4a4 := NB2a1_4a1.out; obtain ⟨z4a5_0, z4a5_1, z4a5_2, z4a5_3, z4a5_4, z4a5_5, z4a5_6, z4a5_7, z4a5_8, z4a5_9, zf4a5_0, zf4a5_1, zf4a5_2, zf4a5_3, zf4a5_4, zf4a5_5, zf4a5_6, zf4a5_7, zf4a5_8, zf4a5_9⟩ := bk10_ BK4a1; obtain ⟨Ao4a6, co4a6, eo4a6⟩ := Kd.R_slice HO3a4.out; subst eo4a6; obtain ⟨z4a7_0, z4a7_1, z4a7_2, zf4a7_0, zf4a7_1, zf4a7_2⟩ := bk3_ BK2a1))
 refine bodyPost_ret (results_cell_row rfl _ _ gb2a1 43 #[.string t3, .string t2, .bool t5] (0, 0) _ rfl (kT) Tryz.underlying43 rfl (by kernel_rfl)) rfl ?_
 exact ⟨rE, bE⟩

/-! ### ask_Want: function 31 -/
def ask_Want.f (k : Nat) (a0_0 : ByteArray) (a0_1 : ByteArray) (a0_2 : ByteArray) (a0_3 : Int) (a0_4 : Bool) (l0_5 : List (S28)) (a0_6 : Int) (a0_7 : Int) (a0_8 : Int) (a0_9 : Int) : Option (ByteArray × ByteArray × Bool × ByteArray × ByteArray) := (ask_Norm.f k a0_0 a0_1 a0_2 a0_3 a0_4 l0_5 a0_6 a0_7 a0_8 a0_9).bind fun bt414 => ((ask_Cell.f k a0_0 a0_1 a0_2 a0_3 a0_4 l0_5 a0_6 a0_7 a0_8 a0_9).bind fun bt427 => ((ask_Names.f k a0_0 a0_1 a0_2 a0_3 a0_4 l0_5 a0_6 a0_7 a0_8 a0_9).bind fun t430 => ((strings_Join.f t430 (⟨#[44]⟩ : ByteArray)).bind fun t433 => (some (bt427.1, bt427.2.1, bt427.2.2, bt414.1, t433)))))
theorem ask_Want.mono : ∀ a0 a1 a2 a3 a4 a5 a6 a7 a8 a9 k, LeO (ask_Want.f k a0 a1 a2 a3 a4 a5 a6 a7 a8 a9) (ask_Want.f (k + 1) a0 a1 a2 a3 a4 a5 a6 a7 a8 a9) := by
 intro a0 a1 a2 a3 a4 a5 a6 a7 a8 a9 k
 have hm0 := @ask_Cell.mono; have hm1 := @ask_Names.mono; have hm2 := @ask_Norm.mono; unfold ask_Want.f
 exact moE

def ask_Want.T2 : Bool × List (List Nat × List Nat) := (true, [([], []), ([0], [0]), ([], []), ([2], [2]), ([], []), ([4, 1], [4]), ([5, 5], [5]), ([1, 3, 6], [1, 3, 6]), ([7, 6, 0, 1, 2, 3, 4, 5, 6, 7], [7])])
def ask_Want.B2 : List Nat := [0, 1, 0, 4, 0, 19, 51, 127, 255]
theorem ask_Want.tab2 : rtab .any (opsOf Tryz.f31 2) = ask_Want.T2 := by kernel_rfl
theorem ask_Want.bits2 : waitsOk ask_Want.T2.2 ask_Want.B2 = true := by kernel_rfl
set_option maxHeartbeats 8000000 in
set_option maxRecDepth 100000 in
theorem ask_Want.calls (k : Nat) (a0_0 : ByteArray) (a0_1 : ByteArray) (a0_2 : ByteArray) (a0_3 : Int) (a0_4 : Bool) (A0_5 : Option Addr) (c0_5 : Nat) (l0_5 : List (S28)) (a0_6 : Int) (a0_7 : Int) (a0_8 : Int) (a0_9 : Int) (r1 : ByteArray) (r2 : ByteArray) (r3 : Bool) (r4 : ByteArray) (r5 : ByteArray) (w : World) (hr0_5 : Kd.C k28 w A0_5 l0_5.length l0_5) (hc0_5 : l0_5.length ≤ c0_5) (hM_ : Aside0 (LaidW w)) (h : ask_Want.f k a0_0 a0_1 a0_2 a0_3 a0_4 l0_5 a0_6 a0_7 a0_8 a0_9 = some (r1, r2, r3, r4, r5)) :
  Calls Tryz.prog 31 #[.agg #[.string a0_0, .string a0_1, .string a0_2, .int .i64 a0_3, .bool a0_4, .slice A0_5 l0_5.length c0_5, .int .i64 a0_6, .int .u64 a0_7, .int .i64 a0_8, .int .i64 a0_9]] w fun e w' => e = .returned (.agg #[.string r1, .string r2, .bool r3, .string r4, .string r5]) ∧ Below w.heap.size w w' := by
 have hu26 := Tryz.underlying26
 have hu46 := Tryz.underlying46
 have HR1_5 := Aside0.mk hr0_5
 have HC1_5 := Aside0.mk hc0_5
 clear hr0_5 hc0_5
 have HB := Aside0.mk (Below.refl w.heap.size w)
 have H : ((ask_Norm.f k a0_0 a0_1 a0_2 a0_3 a0_4 l0_5 a0_6 a0_7 a0_8 a0_9).bind fun bt1 => ((ask_Cell.f k a0_0 a0_1 a0_2 a0_3 a0_4 l0_5 a0_6 a0_7 a0_8 a0_9).bind fun bt2 => ((ask_Names.f k a0_0 a0_1 a0_2 a0_3 a0_4 l0_5 a0_6 a0_7 a0_8 a0_9).bind fun t3 => ((strings_Join.f t3 (⟨#[44]⟩ : ByteArray)).bind fun t4 => (some (bt2.1, bt2.2.1, bt2.2.2, bt1.1, t4)))))) = some (r1, r2, r3, r4, r5) := h
 clear h
 replace H := bd_ H; obtain ⟨⟨t1, t5, t6, t7, t8, t9, t10, t11, t12, t13⟩, A2, H⟩ := H
 replace H : ((ask_Cell.f k a0_0 a0_1 a0_2 a0_3 a0_4 l0_5 a0_6 a0_7 a0_8 a0_9).bind fun bt2 => ((ask_Names.f k a0_0 a0_1 a0_2 a0_3 a0_4 l0_5 a0_6 a0_7 a0_8 a0_9).bind fun t3 => ((strings_Join.f t3 (⟨#[44]⟩ : ByteArray)).bind fun t4 => (some (bt2.1, bt2.2.1, bt2.2.2, t1, t4))))) = some (r1, r2, r3, r4, r5) := H
 replace H := bd_ H; obtain ⟨⟨t2, t14, t15⟩, A3, H⟩ := H
 replace H : ((ask_Names.f k a0_0 a0_1 a0_2 a0_3 a0_4 l0_5 a0_6 a0_7 a0_8 a0_9).bind fun t3 => ((strings_Join.f t3 (⟨#[44]⟩ : ByteArray)).bind fun t4 => (some (t2, t14, t15, t1, t4)))) = some (r1, r2, r3, r4, r5) := H
 replace H := bd_ H; obtain ⟨t3, A4, H⟩ := H
 replace H := bd_ H; obtain ⟨t4, A5, H⟩ := H
 simp only [Option.some.injEq, Prod.mk.injEq] at H
 obtain ⟨rfl, rfl, rfl, rfl, rfl⟩ := H
 go_enter Tryz.func31, Tryz.ntmps31
 try go_wp2_with (first | ((with_reducible refine gate_dst (N := 1) rfl ?_); refine bxE (N := 1) (cs := #[.string a0_0, .string a0_1, .string a0_2, .int .i64 a0_3, .bool a0_4, .slice A0_5 l0_5.length c0_5, .int .i64 a0_6, .int .u64 a0_7, .int .i64 a0_8, .int .i64 a0_9]) (t := 26) fun gb1a1 hg w1a2 hbox hb => ?_; obtain ⟨HB', BK1a1, GW1a1⟩ := bx_ bE hg hbox hb; have GE1a1 := GW1a1; clear HB hb hbox hg; have HB := HB'; clear HB') | ((with_reducible refine gate_dst (N := 2) rfl ?_); refine bxE (N := 2) (cs := #[.string (⟨#[]⟩ : ByteArray), .string (⟨#[]⟩ : ByteArray), .bool false, .string (⟨#[]⟩ : ByteArray), .string (⟨#[]⟩ : ByteArray)]) (t := 46) fun gb2a1 hg w2a2 hbox hb => ?_; have BK2a1 := Aside0.mk (hbox); have GW2a1 := sE (w := w) hg; have GE2a1 := sE (w := w) hg; have NB1a1_2a1 := neL BK1a1 hg; have NB2a1_1a1 := neG BK1a1 hg; replace BK1a1 := kM BK1a1 hb; replace HB := bS bE hb; clear hb hbox hg; have hnb2a3 := NB1a1_2a1.out; have hnc2a3 := NB2a1_1a1.out; obtain ⟨z2a4_0, z2a4_1, z2a4_2, z2a4_3, z2a4_4, z2a4_5, z2a4_6, z2a4_7, z2a4_8, z2a4_9, zf2a4_0, zf2a4_1, zf2a4_2, zf2a4_3, zf2a4_4, zf2a4_5, zf2a4_6, zf2a4_7, zf2a4_8, zf2a4_9⟩ := bk10_ BK1a1) | ((with_reducible refine gate_callee (f := 20) rfl ?_); refine gL (some 5) Tryz.func20 #[.agg #[.string a0_0, .string a0_1, .string a0_2, .int .i64 a0_3, .bool a0_4, .slice A0_5 l0_5.length c0_5, .int .i64 a0_6, .int .u64 a0_7, .int .i64 a0_8, .int .i64 a0_9]] ?_; (with_reducible refine (ask_Norm.calls k a0_0 a0_1 a0_2 a0_3 a0_4 _ _ l0_5 a0_6 a0_7 a0_8 a0_9 t1 t5 t6 t7 t8 t9 t10 t11 t12 t13 _ ?side1 ?side2 ?side3 A2.out).mono ?_); (case side1 => repeat (first | exact (Kd.C_below HR1_5.out HB.out) | (with_reducible refine Kd.C_alloc ?_ _) | (with_reducible refine Kd.C_drewN ?_ _) | (with_reducible refine Kd.C_drew ?_))); (case side2 => exact HC1_5.out); (case side3 => exact ⟨lE⟩); rintro e w3a1 ⟨v3a2, rfl, ho3a3, hb⟩; refine ⟨_, rfl, ?_⟩; have n0_ := Aside0.mk (Kd.R_lower ho3a3 (below_size bE)); have n1_ := kM BK1a1 hb; have n2_ := kM BK2a1 hb; have n3_ := bS bE hb; clear BK1a1; clear BK2a1; clear HB; have HO3a4 := n0_; have BK1a1 := n1_; have BK2a1 := n2_; have HB := n3_; clear n0_ n1_ n2_ n3_; (try clear hb); (try clear hb2); (try clear hk); (try clear hi); (try clear ho3a3)) | ((with_reducible refine gate_dst (N := 3) rfl ?_); refine bxE (N := 3) (cs := #[.string (⟨#[]⟩ : ByteArray), .string (⟨#[]⟩ : ByteArray), .string (⟨#[]⟩ : ByteArray), .int .i64 0, .bool false, .slice none 0 0, .int .i64 0, .int .u64 0, .int .i64 0, .int .i64 0]) (t := 26) fun gb4a1 hg w4a2 hbox hb => ?_; have BK4a1 := Aside0.mk (hbox); have GW4a1 := sE (w := w) hg; have GE4a1 := sE (w := w) hg; have NB1a1_4a1 := neL BK1a1 hg; have NB4a1_1a1 := neG BK1a1 hg; have NB2a1_4a1 := neL BK2a1 hg; have NB4a1_2a1 := neG BK2a1 hg; replace HO3a4 := rM HO3a4 hb; replace BK1a1 := kM BK1a1 hb; replace BK2a1 := kM BK2a1 hb; replace HB := bS bE hb; clear hb hbox hg; have hnb4a3 := NB4a1_1a1.out; have hnc4a3 := NB1a1_4a1.out; have hnb4a4 := NB4a1_2a1.out; have hnc4a4 := NB2a1_4a1.out; obtain ⟨z4a5_0, z4a5_1, z4a5_2, z4a5_3, z4a5_4, z4a5_5, z4a5_6, z4a5_7, z4a5_8, z4a5_9, zf4a5_0, zf4a5_1, zf4a5_2, zf4a5_3, zf4a5_4, zf4a5_5, zf4a5_6, zf4a5_7, zf4a5_8, zf4a5_9⟩ := bk10_ BK4a1; obtain ⟨Ao4a6, co4a6, eo4a6⟩ := Kd.R_slice HO3a4.out; subst eo4a6))
 have n0_ : Aside0 (Kd.R k28 28 ((((((((((w4a2.setCell ⟨gb4a1, 0, none⟩ (.string t1)).setCell ⟨gb4a1, 1, none⟩ (.string t5)).setCell ⟨gb4a1, 2, none⟩ (.string t6)).setCell ⟨gb4a1, 3, none⟩ (.int .i64 t7)).setCell ⟨gb4a1, 4, none⟩ (.bool t8)).setCell ⟨gb4a1, 5, none⟩ (.slice Ao4a6 t9.length co4a6)).setCell ⟨gb4a1, 6, none⟩ (.int .i64 t10)).setCell ⟨gb4a1, 7, none⟩ (.int .u64 t11)).setCell ⟨gb4a1, 8, none⟩ (.int .i64 t12)).setCell ⟨gb4a1, 9, none⟩ (.int .i64 t13)) w.heap.size (fun _ => True) (.slice Ao4a6 t9.length co4a6) t9) := ⟨by (with_reducible repeat (first | apply Kd.R_alloc | apply Kd.R_drewN | apply Kd.R_drew)); exact Kd.R_mono (Kd.R_far (p := ⟨gb4a1, 9, none⟩) (Kd.R_far (p := ⟨gb4a1, 8, none⟩) (Kd.R_far (p := ⟨gb4a1, 7, none⟩) (Kd.R_far (p := ⟨gb4a1, 6, none⟩) (Kd.R_far (p := ⟨gb4a1, 5, none⟩) (Kd.R_far (p := ⟨gb4a1, 4, none⟩) (Kd.R_far (p := ⟨gb4a1, 3, none⟩) (Kd.R_far (p := ⟨gb4a1, 2, none⟩) (Kd.R_far (p := ⟨gb4a1, 1, none⟩) (Kd.R_far (p := ⟨gb4a1, 0, none⟩) (Kd.R_types HO3a4.out BK4a1.out (by decide)) (fun _ hk => hk.2) (.string t1)) (fun _ hk => hk.2) (.string t5)) (fun _ hk => hk.2) (.string t6)) (fun _ hk => hk.2) (.int .i64 t7)) (fun _ hk => hk.2) (.bool t8)) (fun _ hk => hk.2) (.slice Ao4a6 t9.length co4a6)) (fun _ hk => hk.2) (.int .i64 t10)) (fun _ hk => hk.2) (.int .u64 t11)) (fun _ hk => hk.2) (.int .i64 t12)) (fun _ hk => hk.2) (.int .i64 t13)) (fun _ hk => trivial)⟩
 have n1_ : Aside0 (((((((((((w4a2.setCell ⟨gb4a1, 0, none⟩ (.string t1)).setCell ⟨gb4a1, 1, none⟩ (.string t5)).setCell ⟨gb4a1, 2, none⟩ (.string t6)).setCell ⟨gb4a1, 3, none⟩ (.int .i64 t7)).setCell ⟨gb4a1, 4, none⟩ (.bool t8)).setCell ⟨gb4a1, 5, none⟩ (.slice Ao4a6 t9.length co4a6)).setCell ⟨gb4a1, 6, none⟩ (.int .i64 t10)).setCell ⟨gb4a1, 7, none⟩ (.int .u64 t11)).setCell ⟨gb4a1, 8, none⟩ (.int .i64 t12)).setCell ⟨gb4a1, 9, none⟩ (.int .i64 t13)).heap[gb1a1]? = some (.cells #[.string a0_0, .string a0_1, .string a0_2, .int .i64 a0_3, .bool a0_4, .slice A0_5 l0_5.length c0_5, .int .i64 a0_6, .int .u64 a0_7, .int .i64 a0_8, .int .i64 a0_9] 26 (0, 0))) := ⟨kT⟩
 have n2_ : Aside0 (((((((((((w4a2.setCell ⟨gb4a1, 0, none⟩ (.string t1)).setCell ⟨gb4a1, 1, none⟩ (.string t5)).setCell ⟨gb4a1, 2, none⟩ (.string t6)).setCell ⟨gb4a1, 3, none⟩ (.int .i64 t7)).setCell ⟨gb4a1, 4, none⟩ (.bool t8)).setCell ⟨gb4a1, 5, none⟩ (.slice Ao4a6 t9.length co4a6)).setCell ⟨gb4a1, 6, none⟩ (.int .i64 t10)).setCell ⟨gb4a1, 7, none⟩ (.int .u64 t11)).setCell ⟨gb4a1, 8, none⟩ (.int .i64 t12)).setCell ⟨gb4a1, 9, none⟩ (.int .i64 t13)).heap[gb2a1]? = some (.cells #[.string (⟨#[]⟩ : ByteArray), .string (⟨#[]⟩ : ByteArray), .bool false, .string (⟨#[]⟩ : ByteArray), .string (⟨#[]⟩ : ByteArray)] 46 (0, 0))) := ⟨kT⟩
 have n3_ : Aside0 (((((((((((w4a2.setCell ⟨gb4a1, 0, none⟩ (.string t1)).setCell ⟨gb4a1, 1, none⟩ (.string t5)).setCell ⟨gb4a1, 2, none⟩ (.string t6)).setCell ⟨gb4a1, 3, none⟩ (.int .i64 t7)).setCell ⟨gb4a1, 4, none⟩ (.bool t8)).setCell ⟨gb4a1, 5, none⟩ (.slice Ao4a6 t9.length co4a6)).setCell ⟨gb4a1, 6, none⟩ (.int .i64 t10)).setCell ⟨gb4a1, 7, none⟩ (.int .u64 t11)).setCell ⟨gb4a1, 8, none⟩ (.int .i64 t12)).setCell ⟨gb4a1, 9, none⟩ (.int .i64 t13)).heap[gb4a1]? = some (.cells #[.string t1, .string t5, .string t6, .int .i64 t7, .bool t8, .slice Ao4a6 t9.length co4a6, .int .i64 t10, .int .u64 t11, .int .i64 t12, .int .i64 t13] 26 (0, 0))) := ⟨kT⟩
 have n4_ : Aside0 (Below w.heap.size w ((((((((((w4a2.setCell ⟨gb4a1, 0, none⟩ (.string t1)).setCell ⟨gb4a1, 1, none⟩ (.string t5)).setCell ⟨gb4a1, 2, none⟩ (.string t6)).setCell ⟨gb4a1, 3, none⟩ (.int .i64 t7)).setCell ⟨gb4a1, 4, none⟩ (.bool t8)).setCell ⟨gb4a1, 5, none⟩ (.slice Ao4a6 t9.length co4a6)).setCell ⟨gb4a1, 6, none⟩ (.int .i64 t10)).setCell ⟨gb4a1, 7, none⟩ (.int .u64 t11)).setCell ⟨gb4a1, 8, none⟩ (.int .i64 t12)).setCell ⟨gb4a1, 9, none⟩ (.int .i64 t13))) := ⟨bE⟩
 (try clear HO3a4)
 (try clear BK1a1)
 (try clear BK2a1)
 (try clear BK4a1)
 (try clear HB)
 generalize ((((((((((w4a2.setCell ⟨gb4a1, 0, none⟩ (.string t1)).setCell ⟨gb4a1, 1, none⟩ (.string t5)).setCell ⟨gb4a1, 2, none⟩ (.string t6)).setCell ⟨gb4a1, 3, none⟩ (.int .i64 t7)).setCell ⟨gb4a1, 4, none⟩ (.bool t8)).setCell ⟨gb4a1, 5, none⟩ (.slice Ao4a6 t9.length co4a6)).setCell ⟨gb4a1, 6, none⟩ (.int .i64 t10)).setCell ⟨gb4a1, 7, none⟩ (.int .u64 t11)).setCell ⟨gb4a1, 8, none⟩ (.int .i64 t12)).setCell ⟨gb4a1, 9, none⟩ (.int .i64 t13)) = w13s1 at n0_ n1_ n2_ n3_ n4_ ⊢
 have HO3a4 := n0_
 have BK1a1 := n1_
 have BK2a1 := n2_
 have BK4a1 := n3_
 have HB := n4_
 clear n0_ n1_ n2_ n3_ n4_
 have n0_ := Aside0.mk (Kd.R_drew HO3a4.out)
 have n1_ := Aside0.mk (blk_drew BK1a1.out)
 have n2_ := Aside0.mk (blk_drew BK2a1.out)
 have n3_ := Aside0.mk (blk_drew BK4a1.out)
 have n4_ := Aside0.mk (below_drew1 HB.out)
 clear HO3a4
 clear BK1a1
 clear BK2a1
 clear BK4a1
 clear HB
 have HO3a4 := n0_
 have BK1a1 := n1_
 have BK2a1 := n2_
 have BK4a1 := n3_
 have HB := n4_
 clear n0_ n1_ n2_ n3_ n4_
 refine start_ (n := 9) (S := fun w' => w'.cell? ⟨gb1a1, 0, none⟩ = some (.string a0_0) ∧ w'.cell? ⟨gb1a1, 1, none⟩ = some (.string a0_1) ∧ w'.cell? ⟨gb1a1, 2, none⟩ = some (.string a0_2) ∧ w'.cell? ⟨gb1a1, 3, none⟩ = some (.int .i64 a0_3) ∧ w'.cell? ⟨gb1a1, 4, none⟩ = some (.bool a0_4) ∧ w'.cell? ⟨gb1a1, 5, none⟩ = some (.slice A0_5 l0_5.length c0_5) ∧ w'.cell? ⟨gb1a1, 6, none⟩ = some (.int .i64 a0_6) ∧ w'.cell? ⟨gb1a1, 7, none⟩ = some (.int .u64 a0_7) ∧ w'.cell? ⟨gb1a1, 8, none⟩ = some (.int .i64 a0_8) ∧ w'.cell? ⟨gb1a1, 9, none⟩ = some (.int .i64 a0_9) ∧ w'.cell? ⟨gb4a1, 0, none⟩ = some (.string t1) ∧ w'.cell? ⟨gb4a1, 1, none⟩ = some (.string t5) ∧ w'.cell? ⟨gb4a1, 2, none⟩ = some (.string t6) ∧ w'.cell? ⟨gb4a1, 3, none⟩ = some (.int .i64 t7) ∧ w'.cell? ⟨gb4a1, 4, none⟩ = some (.bool t8) ∧ w'.cell? ⟨gb4a1, 5, none⟩ = some (.slice Ao4a6 t9.length co4a6) ∧ w'.cell? ⟨gb4a1, 6, none⟩ = some (.int .i64 t10) ∧ w'.cell? ⟨gb4a1, 7, none⟩ = some (.int .u64 t11) ∧ w'.cell? ⟨gb4a1, 8, none⟩ = some (.int .i64 t12) ∧ w'.cell? ⟨gb4a1, 9, none⟩ = some (.int .i64 t13)) (ds := []) (bz 9 0) (by kernel_rfl) rfl rfl (bkd10_ BK1a1 (bkc10_ BK4a1)) (fun hHeld => ?_); refine with_tabW ask_Want.tab2 ask_Want.bits2 (fun HT_ HW_ => ?_)
 generalize w13s1.drew = w37s1 at HO3a4 BK1a1 BK2a1 BK4a1 HB hHeld ⊢
 refine pA (i := 2) (N := some 8) (bz 9 4) (any_of HT_.out (by kernel_rfl)) ?_
 refine tA20 (i := 0) (N := some 6) (bz 9 5) (take_ofW HT_.out HW_.out (by kernel_rfl)) hHeld ?_
 refine tA20 (i := 3) (N := some 9) (bz 9 13) (take_ofW HT_.out HW_.out (by kernel_rfl)) hHeld ?_
 refine tA20 (i := 4) (N := some 10) (bz 9 29) (take_ofW HT_.out HW_.out (by kernel_rfl)) hHeld ?_
 refine one_ (i := 1) (N := some 7) (bz 9 31) rfl rfl (one_of HT_.out (by kernel_rfl)) (by decide) (fun K hK => ?_)
 refine gS Tryz.func29 #[.agg #[.string a0_0, .string a0_1, .string a0_2, .int .i64 a0_3, .bool a0_4, .slice A0_5 l0_5.length c0_5, .int .i64 a0_6, .int .u64 a0_7, .int .i64 a0_8, .int .i64 a0_9]] ?_
 with_reducible refine (ask_Cell.calls k a0_0 a0_1 a0_2 a0_3 a0_4 _ _ l0_5 a0_6 a0_7 a0_8 a0_9 t2 t14 t15 _ ?side1 ?side2 ?side3 A3.out).mono ?_
 (case side1 => repeat (first | exact (Kd.C_below HR1_5.out HB.out) | (with_reducible refine Kd.C_alloc ?_ _) | (with_reducible refine Kd.C_drewN ?_ _) | (with_reducible refine Kd.C_drew ?_)))
 (case side2 => exact HC1_5.out)
 (case side3 => exact ⟨lE⟩)
 rintro e w48s1 ⟨rfl, hb⟩
 refine ⟨_, rfl, ?_⟩
 replace HO3a4 := rM HO3a4 hb; replace BK1a1 := kM BK1a1 hb; replace BK2a1 := kM BK2a1 hb; replace BK4a1 := kM BK4a1 hb; replace HB := bS bE hb; (try clear hb)
 refine hK.out _ _ (bkd10_ BK1a1 (bkc10_ BK4a1)) (fun hHeld => ?_)
 clear hK K
 refine nA 7 ?_
 refine one_ (i := 5) (N := some 11) (bz 9 63) rfl rfl (one_of HT_.out (by kernel_rfl)) (by decide) (fun K hK => ?_)
 refine gS Tryz.func24 #[.agg #[.string a0_0, .string a0_1, .string a0_2, .int .i64 a0_3, .bool a0_4, .slice A0_5 l0_5.length c0_5, .int .i64 a0_6, .int .u64 a0_7, .int .i64 a0_8, .int .i64 a0_9]] ?_
 with_reducible refine (ask_Names.calls k a0_0 a0_1 a0_2 a0_3 a0_4 _ _ l0_5 a0_6 a0_7 a0_8 a0_9 t3 _ ?side1 ?side2 ?side3 A4.out).mono ?_
 (case side1 => repeat (first | exact (Kd.C_below HR1_5.out HB.out) | (with_reducible refine Kd.C_alloc ?_ _) | (with_reducible refine Kd.C_drewN ?_ _) | (with_reducible refine Kd.C_drew ?_)))
 (case side2 => exact HC1_5.out)
 (case side3 => exact ⟨lE⟩)
 rintro e w60s1 ⟨v60s2, rfl, ho3a3, hb⟩
 refine ⟨_, rfl, ?_⟩
 have n0_ := rM HO3a4 hb
 have n1_ := Aside0.mk (Kd.R_lower ho3a3 (below_size bE))
 have n2_ := kM BK1a1 hb
 have n3_ := kM BK2a1 hb
 have n4_ := kM BK4a1 hb
 have n5_ := bS bE hb
 clear HO3a4
 clear BK1a1
 clear BK2a1
 clear BK4a1
 clear HB
 have HO3a4 := n0_
 have HO74s1 := n1_
 have BK1a1 := n2_
 have BK2a1 := n3_
 have BK4a1 := n4_
 have HB := n5_
 clear n0_ n1_ n2_ n3_ n4_ n5_
 (try clear hb)
 (try clear hb2)
 (try clear hk)
 (try clear hi)
 (try clear ho3a3)
 obtain ⟨Ao85s1, co85s1, eo85s1⟩ := Kd.R_slice HO74s1.out
 (first | subst eo85s1 | (injection eo85s1 with f1_ f2_ f3_; have f4_ := f1_.symm; have f5_ := f3_.symm; clear f1_ f2_ f3_; subst f4_; subst f5_))
 refine hK.out _ _ (bkd10_ BK1a1 (bkc10_ BK4a1)) (fun hHeld => ?_)
 clear hK K
 refine nA 11 ?_
 refine one_ (i := 6) (N := some 12) (bz 9 127) rfl rfl (one_of HT_.out (by kernel_rfl)) (by decide) (fun K hK => ?_)
 refine gS Tryz.func68 #[.slice Ao85s1 t3.length co85s1, .string (⟨#[44]⟩ : ByteArray)] ?_
 with_reducible refine (strings_Join.calls _ _ t3 (⟨#[44]⟩ : ByteArray) t4 _ ?side1 ?side2 A5.out).mono ?_
 (case side1 => repeat (first | exact (Kd.R_reads' HO74s1.out).2.2 | (with_reducible refine Kd.C_alloc ?_ _) | (with_reducible refine Kd.C_drewN ?_ _) | (with_reducible refine Kd.C_drew ?_)))
 (case side2 => exact (Kd.R_reads' HO74s1.out).2.1)
 rintro e w95s1 ⟨rfl, hb⟩
 refine ⟨_, rfl, ?_⟩
 replace HO3a4 := rM HO3a4 hb; replace HO74s1 := rM HO74s1 hb; replace BK1a1 := kM BK1a1 hb; replace BK2a1 := kM BK2a1 hb; replace BK4a1 := kM BK4a1 hb; replace HB := bS bE hb; (try clear hb)
 refine hK.out _ _ (bkd10_ BK1a1 (bkc10_ BK4a1)) (fun hHeld => ?_)
 clear hK K
 refine nA 12 ?_
 refine pA (i := 7) (N := some 13) (bz 9 255) (any_of HT_.out (by kernel_rfl)) ?_
 refine one_ (i := 8) (N := none) (bz 9 511) rfl rfl (one_of HT_.out (by kernel_rfl)) (by decide) (fun K hK => ?_)
 have hs103s1 : w95s1.cell? ⟨gb2a1, 0, none⟩ = some (.string (⟨#[]⟩ : ByteArray)) := (blk_cell BK2a1.out 0).trans rfl
 have hfs103s1 := blk_frozen BK2a1.out 0
 have hns103s1_0 := NB1a1_2a1.out
 have hns103s1_2 := NB4a1_2a1.out
 have hms103s1_0 := NB2a1_1a1.out
 have hms103s1_2 := NB2a1_4a1.out
 have hs109s1 : w95s1.cell? ⟨gb2a1, 1, none⟩ = some (.string (⟨#[]⟩ : ByteArray)) := (blk_cell BK2a1.out 1).trans rfl
 have hfs109s1 := blk_frozen BK2a1.out 1
 have hns109s1_0 := NB1a1_2a1.out
 have hns109s1_2 := NB4a1_2a1.out
 have hms109s1_0 := NB2a1_1a1.out
 have hms109s1_2 := NB2a1_4a1.out
 have hs115s1 : w95s1.cell? ⟨gb2a1, 2, none⟩ = some (.bool false) := (blk_cell BK2a1.out 2).trans rfl
 have hfs115s1 := blk_frozen BK2a1.out 2
 have hns115s1_0 := NB1a1_2a1.out
 have hns115s1_2 := NB4a1_2a1.out
 have hms115s1_0 := NB2a1_1a1.out
 have hms115s1_2 := NB2a1_4a1.out
 have hs121s1 : w95s1.cell? ⟨gb2a1, 3, none⟩ = some (.string (⟨#[]⟩ : ByteArray)) := (blk_cell BK2a1.out 3).trans rfl
 have hfs121s1 := blk_frozen BK2a1.out 3
 have hns121s1_0 := NB1a1_2a1.out
 have hns121s1_2 := NB4a1_2a1.out
 have hms121s1_0 := NB2a1_1a1.out
 have hms121s1_2 := NB2a1_4a1.out
 have hs127s1 : w95s1.cell? ⟨gb2a1, 4, none⟩ = some (.string (⟨#[]⟩ : ByteArray)) := (blk_cell BK2a1.out 4).trans rfl
 have hfs127s1 := blk_frozen BK2a1.out 4
 have hns127s1_0 := NB1a1_2a1.out
 have hns127s1_2 := NB4a1_2a1.out
 have hms127s1_0 := NB2a1_1a1.out
 have hms127s1_2 := NB2a1_4a1.out
 refine skip_ (w1 := ?_) (by rfl) rfl ?_ ?_
 rotate_left
 ·go_simp
  rfl
 refine hK.out _ _ ⟨((cell_far (p := ⟨gb2a1, _, none⟩) NB1a1_2a1.out _).trans (((cell_far (p := ⟨gb2a1, _, none⟩) NB1a1_2a1.out _).trans (((cell_far (p := ⟨gb2a1, _, none⟩) NB1a1_2a1.out _).trans (((cell_far (p := ⟨gb2a1, _, none⟩) NB1a1_2a1.out _).trans (((cell_far (p := ⟨gb2a1, _, none⟩) NB1a1_2a1.out _).trans (hHeld.1)))))))))), ((cell_far (p := ⟨gb2a1, _, none⟩) NB1a1_2a1.out _).trans (((cell_far (p := ⟨gb2a1, _, none⟩) NB1a1_2a1.out _).trans (((cell_far (p := ⟨gb2a1, _, none⟩) NB1a1_2a1.out _).trans (((cell_far (p := ⟨gb2a1, _, none⟩) NB1a1_2a1.out _).trans (((cell_far (p := ⟨gb2a1, _, none⟩) NB1a1_2a1.out _).trans (hHeld.2.1)))))))))), ((cell_far (p := ⟨gb2a1, _, none⟩) NB1a1_2a1.out _).trans (((cell_far (p := ⟨gb2a1, _, none⟩) NB1a1_2a1.out _).trans (((cell_far (p := ⟨gb2a1, _, none⟩) NB1a1_2a1.out _).trans (((cell_far (p := ⟨gb2a1, _, none⟩) NB1a1_2a1.out _).trans (((cell_far (p := ⟨gb2a1, _, none⟩) NB1a1_2a1.out _).trans (hHeld.2.2.1)))))))))), ((cell_far (p := ⟨gb2a1, _, none⟩) NB1a1_2a1.out _).trans (((cell_far (p := ⟨gb2a1, _, none⟩) NB1a1_2a1.out _).trans (((cell_far (p := ⟨gb2a1, _, none⟩) NB1a1_2a1.out _).trans (((cell_far (p := ⟨gb2a1, _, none⟩) NB1a1_2a1.out _).trans (((cell_far (p := ⟨gb2a1, _, none⟩) NB1a1_2a1.out _).trans (hHeld.2.2.2.1)))))))))), ((cell_far (p := ⟨gb2a1, _, none⟩) NB1a1_2a1.out _).trans (((cell_far (p := ⟨gb2a1, _, none⟩) NB1a1_2a1.out _).trans (((cell_far (p := ⟨gb2a1, _, none⟩) NB1a1_2a1.out _).trans (((cell_far (p := ⟨gb2a1, _, none⟩) NB1a1_2a1.out _).trans (((cell_far (p := ⟨gb2a1, _, none⟩) NB1a1_2a1.out _).trans (hHeld.2.2.2.2.1)))))))))), ((cell_far (p := ⟨gb2a1, _, none⟩) NB1a1_2a1.out _).trans (((cell_far (p := ⟨gb2a1, _, none⟩) NB1a1_2a1.out _).trans (((cell_far (p := ⟨gb2a1, _, none⟩) NB1a1_2a1.out _).trans (((cell_far (p := ⟨gb2a1, _, none⟩) NB1a1_2a1.out _).trans (((cell_far (p := ⟨gb2a1, _, none⟩) NB1a1_2a1.out _).trans (hHeld.2.2.2.2.2.1)))))))))), ((cell_far (p := ⟨gb2a1, _, none⟩) NB1a1_2a1.out _).trans (((cell_far (p := ⟨gb2a1, _, none⟩) NB1a1_2a1.out _).trans (((cell_far (p := ⟨gb2a1, _, none⟩) NB1a1_2a1.out _).trans (((cell_far (p := ⟨gb2a1, _, none⟩) NB1a1_2a1.out _).trans (((cell_far (p := ⟨gb2a1, _, none⟩) NB1a1_2a1.out _).trans (hHeld.2.2.2.2.2.2.1)))))))))), ((cell_far (p := ⟨gb2a1, _, none⟩) NB1a1_2a1.out _).trans (((cell_far (p := ⟨gb2a1, _, none⟩) NB1a1_2a1.out _).trans (((cell_far (p := ⟨gb2a1, _, none⟩) NB1a1_2a1.out _).trans (((cell_far (p := ⟨gb2a1, _, none⟩) NB1a1_2a1.out _).trans (((cell_far (p := ⟨gb2a1, _, none⟩) NB1a1_2a1.out _).trans (hHeld.2.2.2.2.2.2.2.1)))))))))), ((cell_far (p := ⟨gb2a1, _, none⟩) NB1a1_2a1.out _).trans (((cell_far (p := ⟨gb2a1, _, none⟩) NB1a1_2a1.out _).trans (((cell_far (p := ⟨gb2a1, _, none⟩) NB1a1_2a1.out _).trans (((cell_far (p := ⟨gb2a1, _, none⟩) NB1a1_2a1.out _).trans (((cell_far (p := ⟨gb2a1, _, none⟩) NB1a1_2a1.out _).trans (hHeld.2.2.2.2.2.2.2.2.1)))))))))), ((cell_far (p := ⟨gb2a1, _, none⟩) NB1a1_2a1.out _).trans (((cell_far (p := ⟨gb2a1, _, none⟩) NB1a1_2a1.out _).trans (((cell_far (p := ⟨gb2a1, _, none⟩) NB1a1_2a1.out _).trans (((cell_far (p := ⟨gb2a1, _, none⟩) NB1a1_2a1.out _).trans (((cell_far (p := ⟨gb2a1, _, none⟩) NB1a1_2a1.out _).trans (hHeld.2.2.2.2.2.2.2.2.2.1)))))))))), ((cell_far (p := ⟨gb2a1, _, none⟩) NB4a1_2a1.out _).trans (((cell_far (p := ⟨gb2a1, _, none⟩) NB4a1_2a1.out _).trans (((cell_far (p := ⟨gb2a1, _, none⟩) NB4a1_2a1.out _).trans (((cell_far (p := ⟨gb2a1, _, none⟩) NB4a1_2a1.out _).trans (((cell_far (p := ⟨gb2a1, _, none⟩) NB4a1_2a1.out _).trans (hHeld.2.2.2.2.2.2.2.2.2.2.1)))))))))), ((cell_far (p := ⟨gb2a1, _, none⟩) NB4a1_2a1.out _).trans (((cell_far (p := ⟨gb2a1, _, none⟩) NB4a1_2a1.out _).trans (((cell_far (p := ⟨gb2a1, _, none⟩) NB4a1_2a1.out _).trans (((cell_far (p := ⟨gb2a1, _, none⟩) NB4a1_2a1.out _).trans (((cell_far (p := ⟨gb2a1, _, none⟩) NB4a1_2a1.out _).trans (hHeld.2.2.2.2.2.2.2.2.2.2.2.1)))))))))), ((cell_far (p := ⟨gb2a1, _, none⟩) NB4a1_2a1.out _).trans (((cell_far (p := ⟨gb2a1, _, none⟩) NB4a1_2a1.out _).trans (((cell_far (p := ⟨gb2a1, _, none⟩) NB4a1_2a1.out _).trans (((cell_far (p := ⟨gb2a1, _, none⟩) NB4a1_2a1.out _).trans (((cell_far (p := ⟨gb2a1, _, none⟩) NB4a1_2a1.out _).trans (hHeld.2.2.2.2.2.2.2.2.2.2.2.2.1)))))))))), ((cell_far (p := ⟨gb2a1, _, none⟩) NB4a1_2a1.out _).trans (((cell_far (p := ⟨gb2a1, _, none⟩) NB4a1_2a1.out _).trans (((cell_far (p := ⟨gb2a1, _, none⟩) NB4a1_2a1.out _).trans (((cell_far (p := ⟨gb2a1, _, none⟩) NB4a1_2a1.out _).trans (((cell_far (p := ⟨gb2a1, _, none⟩) NB4a1_2a1.out _).trans (hHeld.2.2.2.2.2.2.2.2.2.2.2.2.2.1)))))))))), ((cell_far (p := ⟨gb2a1, _, none⟩) NB4a1_2a1.out _).trans (((cell_far (p := ⟨gb2a1, _, none⟩) NB4a1_2a1.out _).trans (((cell_far (p := ⟨gb2a1, _, none⟩) NB4a1_2a1.out _).trans (((cell_far (p := ⟨gb2a1, _, none⟩) NB4a1_2a1.out _).trans (((cell_far (p := ⟨gb2a1, _, none⟩) NB4a1_2a1.out _).trans (hHeld.2.2.2.2.2.2.2.2.2.2.2.2.2.2.1)))))))))), ((cell_far (p := ⟨gb2a1, _, none⟩) NB4a1_2a1.out _).trans (((cell_far (p := ⟨gb2a1, _, none⟩) NB4a1_2a1.out _).trans (((cell_far (p := ⟨gb2a1, _, none⟩) NB4a1_2a1.out _).trans (((cell_far (p := ⟨gb2a1, _, none⟩) NB4a1_2a1.out _).trans (((cell_far (p := ⟨gb2a1, _, none⟩) NB4a1_2a1.out _).trans (hHeld.2.2.2.2.2.2.2.2.2.2.2.2.2.2.2.1)))))))))), ((cell_far (p := ⟨gb2a1, _, none⟩) NB4a1_2a1.out _).trans (((cell_far (p := ⟨gb2a1, _, none⟩) NB4a1_2a1.out _).trans (((cell_far (p := ⟨gb2a1, _, none⟩) NB4a1_2a1.out _).trans (((cell_far (p := ⟨gb2a1, _, none⟩) NB4a1_2a1.out _).trans (((cell_far (p := ⟨gb2a1, _, none⟩) NB4a1_2a1.out _).trans (hHeld.2.2.2.2.2.2.2.2.2.2.2.2.2.2.2.2.1)))))))))), ((cell_far (p := ⟨gb2a1, _, none⟩) NB4a1_2a1.out _).trans (((cell_far (p := ⟨gb2a1, _, none⟩) NB4a1_2a1.out _).trans (((cell_far (p := ⟨gb2a1, _, none⟩) NB4a1_2a1.out _).trans (((cell_far (p := ⟨gb2a1, _, none⟩) NB4a1_2a1.out _).trans (((cell_far (p := ⟨gb2a1, _, none⟩) NB4a1_2a1.out _).trans (hHeld.2.2.2.2.2.2.2.2.2.2.2.2.2.2.2.2.2.1)))))))))), ((cell_far (p := ⟨gb2a1, _, none⟩) NB4a1_2a1.out _).trans (((cell_far (p := ⟨gb2a1, _, none⟩) NB4a1_2a1.out _).trans (((cell_far (p := ⟨gb2a1, _, none⟩) NB4a1_2a1.out _).trans (((cell_far (p := ⟨gb2a1, _, none⟩) NB4a1_2a1.out _).trans (((cell_far (p := ⟨gb2a1, _, none⟩) NB4a1_2a1.out _).trans (hHeld.2.2.2.2.2.2.2.2.2.2.2.2.2.2.2.2.2.2.1)))))))))), ((cell_far (p := ⟨gb2a1, _, none⟩) NB4a1_2a1.out _).trans (((cell_far (p := ⟨gb2a1, _, none⟩) NB4a1_2a1.out _).trans (((cell_far (p := ⟨gb2a1, _, none⟩) NB4a1_2a1.out _).trans (((cell_far (p := ⟨gb2a1, _, none⟩) NB4a1_2a1.out _).trans (((cell_far (p := ⟨gb2a1, _, none⟩) NB4a1_2a1.out _).trans (hHeld.2.2.2.2.2.2.2.2.2.2.2.2.2.2.2.2.2.2.2))))))))))⟩ (fun hHeld => ?_)
 clear hK K
 refine done_ (done_of HT_.out (by kernel_rfl)) ?_
 try go_wp2
 refine bodyPost_ret (results_cell_row rfl _ _ gb2a1 46 #[.string t2, .string t14, .bool t15, .string t1, .string t4] (0, 0) _ rfl (kT) Tryz.underlying46 rfl (by kernel_rfl)) rfl ?_
 exact ⟨rE, bE⟩

end Go.Proofs.YtfmajangcbgooaaGreatDoor.Pr
