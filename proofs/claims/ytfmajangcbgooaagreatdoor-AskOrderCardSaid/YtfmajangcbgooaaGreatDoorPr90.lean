/- AskOrder's law: walked by hand, one way for each number. -/
import Derived.Test.YtfmajangcbgooaaGreatDoorPr0
import Derived.Test.YtfmajangcbgooaaGreatDoorG5
import Derived.Test.YtfmajangcbgooaaGreatDoorK0
import Derived.Test.YtfmajangcbgooaaGreatDoorPr13
import Derived.Test.YtfmajangcbgooaaGreatDoorPr14
namespace Go.Proofs.YtfmajangcbgooaaGreatDoor.Pr
open Go.RowKit Go.Proofs.YtfmajangcbgooaaGreatDoorW.PrintWords Go.Proofs.YtfmajangcbgooaaGreatDoorW.PrintLast Go.Proofs.YtfmajangcbgooaaGreatDoorW.PrintMore
attribute [local go_sem] max2_int min2_int max_two min_two max_three min_three max_four min_four
set_option linter.unusedVariables false
set_option linter.unusedSimpArgs false
/-! ### lockkeeperlaw8_AskOrder: function 4 -/
def lockkeeperlaw0_Low.f (a0 : Int) (a1 : Int) : Option (Int) := if (IntKind.u64.wrap (a1)) = 0 then (none) else (some (wrap64 (Int.tmod (IntKind.u64.wrap (a0)) (IntKind.u64.wrap (a1)))))
set_option maxHeartbeats 8000000 in
set_option maxRecDepth 100000 in
theorem lockkeeperlaw0_Low.calls (a0 : Int) (a1 : Int) (r : Int) (w : World) (h : lockkeeperlaw0_Low.f a0 a1 = some r) :
  Calls Tryz.prog 12 #[.int .i64 a0, .int .i64 a1] w fun e w' => e = .returned (.int .i64 r) ∧ Drawn0 w w' := by
 have H : (if (IntKind.u64.wrap (a1)) = 0 then (none) else (some (wrap64 (Int.tmod (IntKind.u64.wrap (a0)) (IntKind.u64.wrap (a1)))))) = some r := h
 clear h
 replace H := iteM_ H; obtain ⟨c1, H⟩ := H
 have c1b0 : ((IntKind.u64.wrap (a1)) == 0) = false := beq_eq_false_iff_ne.mpr c1
 have c1b1 : ((IntKind.u64.wrap (a1)) != 0) = true := bne_iff_ne.mpr c1
 obtain rfl := Option.some.inj H
 go_enter Tryz.func12, Tryz.ntmps12
 go_wp2
 go_ret
 exact ⟨by first | rfl | (simp; done) | (simp [*]; done) | (simp [*]; generalize ByteArray.toList _ = l_; cases l_ <;> rfl), by repeat (first | exact Drawn0.refl _ | apply Drawn0.step)⟩

theorem nameW {C : World → Prop} {X : World} (h : ∀ X', X' = X → C X') : C X := h X rfl
set_option maxHeartbeats 8000000 in
set_option maxRecDepth 100000 in
theorem ao0 (k : Nat) (a0 : Int) (y : List S28) (w : World) (hM_ : Aside0 (LaidW w)) (Ny : Aside0 (y = [(⟨(⟨#[]⟩ : ByteArray), (⟨#[]⟩ : ByteArray)⟩ : S28)])) (A1 : Aside0 (lockkeeperlaw0_Low.f a0 9 = some 0)) (A2 : Aside0 (ask_Check.f k (⟨#[84, 82, 65, 67, 69]⟩ : ByteArray) (⟨#[120]⟩ : ByteArray) (⟨#[121]⟩ : ByteArray) 9 false y 7 601 (-1) 0 = some 3)) (A3 : Aside0 (lockkeeperlaw8_awake.f k = some true)) :
  Calls Tryz.prog 4 #[.int .i64 a0] w fun e w' => e = .returned (.bool true) ∧ Below w.heap.size w w' := by
 have hu26 := Tryz.underlying26
 have hu28 := Tryz.underlying28
 have hu34 := Tryz.underlying34
 have HB := Aside0.mk (Below.refl w.heap.size w)
 go_enter Tryz.func4, Tryz.ntmps4
 go_wp2_with (first
  | ((with_reducible refine gate_dst (N := 7) rfl ?_); refine Kd.R_lit k28 _ 28 ?hg (N := 7) ?hd (xs := ([(⟨(⟨#[]⟩ : ByteArray), (⟨#[]⟩ : ByteArray)⟩ : S28)] : List S28)) (inner := [.string (⟨#[]⟩ : ByteArray), .string (⟨#[]⟩ : ByteArray)]) (ok := fun _ => True) (okp := fun _ => True) ?hr ?hp (fun _ hk => hk) trivial (Below.refl _ _) (Nat.le_refl _) (by simp) ?_; (case hd => rfl); (case hg => rfl); (case hr => first | (go_simp; done) | (go_simp; rfl)); (case hp => exact (Reps.c2 (show Kd.M k28 _ _ _ (⟨(⟨#[]⟩ : ByteArray), (⟨#[]⟩ : ByteArray)⟩ : S28) [.string (⟨#[]⟩ : ByteArray), .string (⟨#[]⟩ : ByteArray)] from (k28_mkM _ _ _ (⟨(⟨#[]⟩ : ByteArray), (⟨#[]⟩ : ByteArray)⟩ : S28))) (Reps.none _ _))); intro v1 w1 ho hb hg_ hnew_; clear hg_ hnew_; rw [← Ny.out] at ho; have HO1 := Aside0.mk (Kd.R_lower ho (below_size bE)); replace HB := bS bE hb; clear hb ho; obtain ⟨Ao, co, eo⟩ := Kd.R_slice HO1.out; subst eo)
  | ((with_reducible refine gate_callee (f := 12) rfl ?_); refine gL (some 11) Tryz.func12 #[.int .i64 a0, .int .i64 9] ?_; (with_reducible refine (lockkeeperlaw0_Low.calls a0 9 _ _ A1.out).mono ?_); rintro e w' ⟨rfl, ⟨nd, rfl⟩⟩; refine ⟨_, rfl, ?_⟩; generalize hW : World.drewN _ nd = W; have BK1 : Aside0 (W.heap[w1.heap.size]? = some (.cells #[.string (⟨#[84, 82, 65, 67, 69]⟩ : ByteArray), .string (⟨#[120]⟩ : ByteArray), .string (⟨#[121]⟩ : ByteArray), .int .i64 9, .bool false, .slice Ao y.length co, .int .i64 7, .int .u64 601, .int .i64 (-1), .int .i64 0] 26 (0, 0))) := ⟨by rw [← hW]; exact kN (kA (blk_new _ _) _) _⟩; have BK2 : Aside0 (W.heap[w1.heap.size + 1]? = some (.cells #[.int .i64 3, .int .i64 3, .int .i64 5, .int .i64 7, .int .i64 6, .int .i64 8, .int .i64 9, .int .i64 2, .int .i64 0] 34 (0, 0))) := ⟨by rw [← hW]; refine kN ?_ _; simpa using blk_new (World.alloc w1 _) _⟩; replace HO1 : Aside0 (k28.R 28 W w.heap.size (fun _ => True) (.slice Ao y.length co) y) := ⟨by rw [← hW]; exact rK HO1.out⟩; have HB' : Aside0 (Below w.heap.size w W) := ⟨by rw [← hW]; exact bE⟩; have GE1 : Aside0 (w.heap.size ≤ w1.heap.size) := ⟨below_size HB.out⟩; replace HB := HB'; clear HB' hW; generalize w1.heap.size = g1 at BK1 BK2 GE1 ⊢; have NB : Aside0 (g1 + 1 ≠ g1) := ⟨by omega⟩; have NB' : Aside0 (g1 ≠ g1 + 1) := ⟨by omega⟩; generalize g1 + 1 = g2 at BK2 NB NB' ⊢; obtain ⟨z0, z1, z2, z3, z4, z5, z6, z7, z8, z9, y0, y1, y2, y3, y4, y5, y6, y7, y8, y9⟩ := bk10_ BK1))
 refine nameW (C := fun w_ => Code.wp _ _ _ _ w_) ?_
 intro X hX
 have BKx : Aside0 (X.heap[g1]? = some (.cells #[.string (⟨#[84, 82, 65, 67, 69]⟩ : ByteArray), .string (⟨#[120]⟩ : ByteArray), .string (⟨#[121]⟩ : ByteArray), .int .i64 9, .bool false, .slice Ao y.length co, .int .i64 7, .int .u64 601, .int .i64 (-1), .int .i64 0] 26 (0, 0))) := ⟨by rw [hX]; exact kT⟩
 have BKy : Aside0 (X.heap[g2]? = some (.cells #[.int .i64 3, .int .i64 3, .int .i64 5, .int .i64 7, .int .i64 6, .int .i64 8, .int .i64 9, .int .i64 2, .int .i64 0] 34 (0, 0))) := ⟨by rw [hX]; exact kT⟩
 have HBx : Aside0 (Below w.heap.size w X) := ⟨by rw [hX]; exact bE⟩
 have HOx : Aside0 (k28.R 28 X w.heap.size (fun k => True ∧ k ≠ g1) (.slice Ao y.length co) y) := ⟨by rw [hX]; have z_ := Kd.R_types HO1.out BK1.out (by decide); (repeat (first | exact z_ | refine Kd.R_far (p := ⟨g1, _, none⟩) ?_ (fun _ hk => hk.2) _))⟩
 clear hX HB BK1 BK2 HO1 z0 z1 z2 z3 z4 z5 z6 z7 z8 z9 y0 y1 y2 y3 y4 y5 y6 y7 y8 y9
 have HB := HBx
 clear HBx
 refine start_ (n := 10) (S := fun w' => w'.cell? ⟨g1, 0, none⟩ = some (.string (⟨#[84, 82, 65, 67, 69]⟩ : ByteArray)) ∧ w'.cell? ⟨g1, 1, none⟩ = some (.string (⟨#[120]⟩ : ByteArray)) ∧ w'.cell? ⟨g1, 2, none⟩ = some (.string (⟨#[121]⟩ : ByteArray)) ∧ w'.cell? ⟨g1, 3, none⟩ = some (.int .i64 9) ∧ w'.cell? ⟨g1, 4, none⟩ = some (.bool false) ∧ w'.cell? ⟨g1, 5, none⟩ = some (.slice Ao y.length co) ∧ w'.cell? ⟨g1, 6, none⟩ = some (.int .i64 7) ∧ w'.cell? ⟨g1, 7, none⟩ = some (.int .u64 601) ∧ w'.cell? ⟨g1, 8, none⟩ = some (.int .i64 (-1)) ∧ w'.cell? ⟨g1, 9, none⟩ = some (.int .i64 0) ∧ w'.cell? ⟨g2, 0, none⟩ = some (.int .i64 3)) (ds := []) (bz 10 0) (by kernel_rfl) rfl rfl (bkd10_ (t := 26) ⟨kD BKx.out⟩ ((blk_cell (kD BKy.out) 0).trans rfl)) (fun hHeld => ?_)
 replace BKx : Aside0 (X.drew.heap[g1]? = _) := ⟨kD BKx.out⟩
 replace BKy : Aside0 (X.drew.heap[g2]? = _) := ⟨kD BKy.out⟩
 replace HB : Aside0 (Below w.heap.size w X.drew) := ⟨bD HB.out⟩
 replace HOx := Aside0.mk (Kd.R_drew HOx.out)
 generalize X.drew = w3 at BKx BKy HB hHeld HOx ⊢
 refine tA11 (i := 0) (N := some 36) (bz 10 1) (by kernel_rfl) hHeld ?_
 refine pA (i := 2) (N := some 38) (bz 10 5) (by kernel_rfl) ?_
 refine pA (i := 3) (N := some 39) (bz 10 13) (by kernel_rfl) ?_
 refine tA11 (i := 4) (N := some 40) (bz 10 29) (by kernel_rfl) hHeld ?_
 refine one_ (i := 1) (N := some 37) (bz 10 31) rfl rfl (by kernel_rfl) (by decide) (fun K hK => ?_)
 refine gS Tryz.func13 #[.agg #[.string (⟨#[84, 82, 65, 67, 69]⟩ : ByteArray), .string (⟨#[120]⟩ : ByteArray), .string (⟨#[121]⟩ : ByteArray), .int .i64 9, .bool false, .slice Ao y.length co, .int .i64 7, .int .u64 601, .int .i64 (-1), .int .i64 0]] ?_
 refine (ask_Check.calls k (⟨#[84, 82, 65, 67, 69]⟩ : ByteArray) (⟨#[120]⟩ : ByteArray) (⟨#[121]⟩ : ByteArray) 9 false _ _ y 7 601 (-1) 0 _ _ ?side1 ?side2 ?side3 A2.out).mono ?_
 (case side1 => exact (Kd.R_reads' HOx.out).2.2); (case side2 => exact (Kd.R_reads' HOx.out).2.1)
 (case side3 => exact ⟨lE⟩)
 rintro e w4 ⟨rfl, hb⟩
 refine ⟨_, rfl, ?_⟩
 replace BKx := kM BKx hb
 replace BKy := kM BKy hb
 replace HB := bS bE hb
 clear hb
 refine hK.out _ _ (bkd10_ BKx ((blk_cell BKy.out 0).trans rfl)) (fun hHeld => ?_)
 clear hK K
 refine nA 37 ?_
 refine pA (i := 5) (N := some 41) (bz 10 63) (by kernel_rfl) ?_
 refine pA (i := 6) (N := some 42) (bz 10 127) (by kernel_rfl) ?_
 refine one_ (i := 7) (N := some 43) (bz 10 255) rfl rfl (by kernel_rfl) (by decide) (fun K hK => ?_)
 refine gS Tryz.func15 #[] ?_
 refine (lockkeeperlaw8_awake.calls k true _ ?side4 A3.out).mono ?_
 (case side4 => exact ⟨lE⟩)
 rintro e w5 ⟨rfl, hb⟩
 refine ⟨_, rfl, ?_⟩
 replace BKx := kM BKx hb
 replace BKy := kM BKy hb
 replace HB := bS bE hb
 clear hb
 refine hK.out _ _ (bkd10_ BKx ((blk_cell BKy.out 0).trans rfl)) (fun hHeld => ?_)
 clear hK K
 refine nA 43 ?_
 refine pA (i := 8) (N := some 44) (bz 10 511) (by kernel_rfl) ?_
 refine pA (i := 9) (N := some 2) (bz 10 1023) (by kernel_rfl) ?_
 refine done_ (by kernel_rfl) ?_
 try go_wp2
 go_ret
 exact ⟨rE, bE⟩
set_option maxHeartbeats 8000000 in
set_option maxRecDepth 100000 in
theorem ao1 (k : Nat) (a0 : Int) (y : List S28) (w : World) (hM_ : Aside0 (LaidW w)) (Ny : Aside0 (y = [(⟨(⟨#[]⟩ : ByteArray), (⟨#[]⟩ : ByteArray)⟩ : S28)])) (A1 : Aside0 (lockkeeperlaw0_Low.f a0 9 = some 1)) (A2 : Aside0 (ask_Check.f k (⟨#[84, 82, 65, 67, 69]⟩ : ByteArray) (⟨#[104, 116, 116, 112, 58, 47, 47, 104, 47]⟩ : ByteArray) (⟨#[121]⟩ : ByteArray) 9 false y 7 601 (-1) 0 = some 3)) (A3 : Aside0 (lockkeeperlaw8_awake.f k = some true)) :
  Calls Tryz.prog 4 #[.int .i64 a0] w fun e w' => e = .returned (.bool true) ∧ Below w.heap.size w w' := by
 have hu26 := Tryz.underlying26
 have hu28 := Tryz.underlying28
 have hu34 := Tryz.underlying34
 have HB := Aside0.mk (Below.refl w.heap.size w)
 go_enter Tryz.func4, Tryz.ntmps4
 go_wp2_with (first
  | ((with_reducible refine gate_dst (N := 7) rfl ?_); refine Kd.R_lit k28 _ 28 ?hg (N := 7) ?hd (xs := ([(⟨(⟨#[]⟩ : ByteArray), (⟨#[]⟩ : ByteArray)⟩ : S28)] : List S28)) (inner := [.string (⟨#[]⟩ : ByteArray), .string (⟨#[]⟩ : ByteArray)]) (ok := fun _ => True) (okp := fun _ => True) ?hr ?hp (fun _ hk => hk) trivial (Below.refl _ _) (Nat.le_refl _) (by simp) ?_; (case hd => rfl); (case hg => rfl); (case hr => first | (go_simp; done) | (go_simp; rfl)); (case hp => exact (Reps.c2 (show Kd.M k28 _ _ _ (⟨(⟨#[]⟩ : ByteArray), (⟨#[]⟩ : ByteArray)⟩ : S28) [.string (⟨#[]⟩ : ByteArray), .string (⟨#[]⟩ : ByteArray)] from (k28_mkM _ _ _ (⟨(⟨#[]⟩ : ByteArray), (⟨#[]⟩ : ByteArray)⟩ : S28))) (Reps.none _ _))); intro v1 w1 ho hb hg_ hnew_; clear hg_ hnew_; rw [← Ny.out] at ho; have HO1 := Aside0.mk (Kd.R_lower ho (below_size bE)); replace HB := bS bE hb; clear hb ho; obtain ⟨Ao, co, eo⟩ := Kd.R_slice HO1.out; subst eo)
  | ((with_reducible refine gate_callee (f := 12) rfl ?_); refine gL (some 11) Tryz.func12 #[.int .i64 a0, .int .i64 9] ?_; (with_reducible refine (lockkeeperlaw0_Low.calls a0 9 _ _ A1.out).mono ?_); rintro e w' ⟨rfl, ⟨nd, rfl⟩⟩; refine ⟨_, rfl, ?_⟩; generalize hW : World.drewN _ nd = W; have BK1 : Aside0 (W.heap[w1.heap.size]? = some (.cells #[.string (⟨#[84, 82, 65, 67, 69]⟩ : ByteArray), .string (⟨#[120]⟩ : ByteArray), .string (⟨#[121]⟩ : ByteArray), .int .i64 9, .bool false, .slice Ao y.length co, .int .i64 7, .int .u64 601, .int .i64 (-1), .int .i64 0] 26 (0, 0))) := ⟨by rw [← hW]; exact kN (kA (blk_new _ _) _) _⟩; have BK2 : Aside0 (W.heap[w1.heap.size + 1]? = some (.cells #[.int .i64 3, .int .i64 3, .int .i64 5, .int .i64 7, .int .i64 6, .int .i64 8, .int .i64 9, .int .i64 2, .int .i64 0] 34 (0, 0))) := ⟨by rw [← hW]; refine kN ?_ _; simpa using blk_new (World.alloc w1 _) _⟩; replace HO1 : Aside0 (k28.R 28 W w.heap.size (fun _ => True) (.slice Ao y.length co) y) := ⟨by rw [← hW]; exact rK HO1.out⟩; have HB' : Aside0 (Below w.heap.size w W) := ⟨by rw [← hW]; exact bE⟩; have GE1 : Aside0 (w.heap.size ≤ w1.heap.size) := ⟨below_size HB.out⟩; replace HB := HB'; clear HB' hW; generalize w1.heap.size = g1 at BK1 BK2 GE1 ⊢; have NB : Aside0 (g1 + 1 ≠ g1) := ⟨by omega⟩; have NB' : Aside0 (g1 ≠ g1 + 1) := ⟨by omega⟩; generalize g1 + 1 = g2 at BK2 NB NB' ⊢; obtain ⟨z0, z1, z2, z3, z4, z5, z6, z7, z8, z9, y0, y1, y2, y3, y4, y5, y6, y7, y8, y9⟩ := bk10_ BK1))
 refine nameW (C := fun w_ => Code.wp _ _ _ _ w_) ?_
 intro X hX
 have BKx : Aside0 (X.heap[g1]? = some (.cells #[.string (⟨#[84, 82, 65, 67, 69]⟩ : ByteArray), .string (⟨#[104, 116, 116, 112, 58, 47, 47, 104, 47]⟩ : ByteArray), .string (⟨#[121]⟩ : ByteArray), .int .i64 9, .bool false, .slice Ao y.length co, .int .i64 7, .int .u64 601, .int .i64 (-1), .int .i64 0] 26 (0, 0))) := ⟨by rw [hX]; exact kT⟩
 have BKy : Aside0 (X.heap[g2]? = some (.cells #[.int .i64 3, .int .i64 3, .int .i64 5, .int .i64 7, .int .i64 6, .int .i64 8, .int .i64 9, .int .i64 2, .int .i64 0] 34 (0, 0))) := ⟨by rw [hX]; exact kT⟩
 have HBx : Aside0 (Below w.heap.size w X) := ⟨by rw [hX]; exact bE⟩
 have HOx : Aside0 (k28.R 28 X w.heap.size (fun k => True ∧ k ≠ g1) (.slice Ao y.length co) y) := ⟨by rw [hX]; have z_ := Kd.R_types HO1.out BK1.out (by decide); (repeat (first | exact z_ | refine Kd.R_far (p := ⟨g1, _, none⟩) ?_ (fun _ hk => hk.2) _))⟩
 clear hX HB BK1 BK2 HO1 z0 z1 z2 z3 z4 z5 z6 z7 z8 z9 y0 y1 y2 y3 y4 y5 y6 y7 y8 y9
 have HB := HBx
 clear HBx
 refine start_ (n := 10) (S := fun w' => w'.cell? ⟨g1, 0, none⟩ = some (.string (⟨#[84, 82, 65, 67, 69]⟩ : ByteArray)) ∧ w'.cell? ⟨g1, 1, none⟩ = some (.string (⟨#[104, 116, 116, 112, 58, 47, 47, 104, 47]⟩ : ByteArray)) ∧ w'.cell? ⟨g1, 2, none⟩ = some (.string (⟨#[121]⟩ : ByteArray)) ∧ w'.cell? ⟨g1, 3, none⟩ = some (.int .i64 9) ∧ w'.cell? ⟨g1, 4, none⟩ = some (.bool false) ∧ w'.cell? ⟨g1, 5, none⟩ = some (.slice Ao y.length co) ∧ w'.cell? ⟨g1, 6, none⟩ = some (.int .i64 7) ∧ w'.cell? ⟨g1, 7, none⟩ = some (.int .u64 601) ∧ w'.cell? ⟨g1, 8, none⟩ = some (.int .i64 (-1)) ∧ w'.cell? ⟨g1, 9, none⟩ = some (.int .i64 0) ∧ w'.cell? ⟨g2, 1, none⟩ = some (.int .i64 3)) (ds := []) (bz 10 0) (by kernel_rfl) rfl rfl (bkd10_ (t := 26) ⟨kD BKx.out⟩ ((blk_cell (kD BKy.out) 1).trans rfl)) (fun hHeld => ?_)
 replace BKx : Aside0 (X.drew.heap[g1]? = _) := ⟨kD BKx.out⟩
 replace BKy : Aside0 (X.drew.heap[g2]? = _) := ⟨kD BKy.out⟩
 replace HB : Aside0 (Below w.heap.size w X.drew) := ⟨bD HB.out⟩
 replace HOx := Aside0.mk (Kd.R_drew HOx.out)
 generalize X.drew = w3 at BKx BKy HB hHeld HOx ⊢
 refine tA11 (i := 0) (N := some 36) (bz 10 1) (by kernel_rfl) hHeld ?_
 refine pA (i := 2) (N := some 38) (bz 10 5) (by kernel_rfl) ?_
 refine pA (i := 3) (N := some 39) (bz 10 13) (by kernel_rfl) ?_
 refine tA11 (i := 4) (N := some 40) (bz 10 29) (by kernel_rfl) hHeld ?_
 refine one_ (i := 1) (N := some 37) (bz 10 31) rfl rfl (by kernel_rfl) (by decide) (fun K hK => ?_)
 refine gS Tryz.func13 #[.agg #[.string (⟨#[84, 82, 65, 67, 69]⟩ : ByteArray), .string (⟨#[104, 116, 116, 112, 58, 47, 47, 104, 47]⟩ : ByteArray), .string (⟨#[121]⟩ : ByteArray), .int .i64 9, .bool false, .slice Ao y.length co, .int .i64 7, .int .u64 601, .int .i64 (-1), .int .i64 0]] ?_
 refine (ask_Check.calls k (⟨#[84, 82, 65, 67, 69]⟩ : ByteArray) (⟨#[104, 116, 116, 112, 58, 47, 47, 104, 47]⟩ : ByteArray) (⟨#[121]⟩ : ByteArray) 9 false _ _ y 7 601 (-1) 0 _ _ ?side1 ?side2 ?side3 A2.out).mono ?_
 (case side1 => exact (Kd.R_reads' HOx.out).2.2); (case side2 => exact (Kd.R_reads' HOx.out).2.1)
 (case side3 => exact ⟨lE⟩)
 rintro e w4 ⟨rfl, hb⟩
 refine ⟨_, rfl, ?_⟩
 replace BKx := kM BKx hb
 replace BKy := kM BKy hb
 replace HB := bS bE hb
 clear hb
 refine hK.out _ _ (bkd10_ BKx ((blk_cell BKy.out 1).trans rfl)) (fun hHeld => ?_)
 clear hK K
 refine nA 37 ?_
 refine pA (i := 5) (N := some 41) (bz 10 63) (by kernel_rfl) ?_
 refine pA (i := 6) (N := some 42) (bz 10 127) (by kernel_rfl) ?_
 refine one_ (i := 7) (N := some 43) (bz 10 255) rfl rfl (by kernel_rfl) (by decide) (fun K hK => ?_)
 refine gS Tryz.func15 #[] ?_
 refine (lockkeeperlaw8_awake.calls k true _ ?side4 A3.out).mono ?_
 (case side4 => exact ⟨lE⟩)
 rintro e w5 ⟨rfl, hb⟩
 refine ⟨_, rfl, ?_⟩
 replace BKx := kM BKx hb
 replace BKy := kM BKy hb
 replace HB := bS bE hb
 clear hb
 refine hK.out _ _ (bkd10_ BKx ((blk_cell BKy.out 1).trans rfl)) (fun hHeld => ?_)
 clear hK K
 refine nA 43 ?_
 refine pA (i := 8) (N := some 44) (bz 10 511) (by kernel_rfl) ?_
 refine pA (i := 9) (N := some 2) (bz 10 1023) (by kernel_rfl) ?_
 refine done_ (by kernel_rfl) ?_
 try go_wp2
 go_ret
 exact ⟨rE, bE⟩
set_option maxHeartbeats 8000000 in
set_option maxRecDepth 100000 in
theorem ao2 (k : Nat) (a0 : Int) (y : List S28) (w : World) (hM_ : Aside0 (LaidW w)) (Ny : Aside0 (y = [(⟨(⟨#[]⟩ : ByteArray), (⟨#[]⟩ : ByteArray)⟩ : S28)])) (A1 : Aside0 (lockkeeperlaw0_Low.f a0 9 = some 2)) (A2 : Aside0 (ask_Check.f k (⟨#[84, 82, 65, 67, 69]⟩ : ByteArray) (⟨#[104, 116, 116, 112, 58, 47, 47, 104, 47]⟩ : ByteArray) (⟨#[104, 116, 116, 112, 58, 47, 47, 104]⟩ : ByteArray) 9 false y 7 601 (-1) 0 = some 5)) (A3 : Aside0 (lockkeeperlaw8_awake.f k = some true)) :
  Calls Tryz.prog 4 #[.int .i64 a0] w fun e w' => e = .returned (.bool true) ∧ Below w.heap.size w w' := by
 have hu26 := Tryz.underlying26
 have hu28 := Tryz.underlying28
 have hu34 := Tryz.underlying34
 have HB := Aside0.mk (Below.refl w.heap.size w)
 go_enter Tryz.func4, Tryz.ntmps4
 go_wp2_with (first
  | ((with_reducible refine gate_dst (N := 7) rfl ?_); refine Kd.R_lit k28 _ 28 ?hg (N := 7) ?hd (xs := ([(⟨(⟨#[]⟩ : ByteArray), (⟨#[]⟩ : ByteArray)⟩ : S28)] : List S28)) (inner := [.string (⟨#[]⟩ : ByteArray), .string (⟨#[]⟩ : ByteArray)]) (ok := fun _ => True) (okp := fun _ => True) ?hr ?hp (fun _ hk => hk) trivial (Below.refl _ _) (Nat.le_refl _) (by simp) ?_; (case hd => rfl); (case hg => rfl); (case hr => first | (go_simp; done) | (go_simp; rfl)); (case hp => exact (Reps.c2 (show Kd.M k28 _ _ _ (⟨(⟨#[]⟩ : ByteArray), (⟨#[]⟩ : ByteArray)⟩ : S28) [.string (⟨#[]⟩ : ByteArray), .string (⟨#[]⟩ : ByteArray)] from (k28_mkM _ _ _ (⟨(⟨#[]⟩ : ByteArray), (⟨#[]⟩ : ByteArray)⟩ : S28))) (Reps.none _ _))); intro v1 w1 ho hb hg_ hnew_; clear hg_ hnew_; rw [← Ny.out] at ho; have HO1 := Aside0.mk (Kd.R_lower ho (below_size bE)); replace HB := bS bE hb; clear hb ho; obtain ⟨Ao, co, eo⟩ := Kd.R_slice HO1.out; subst eo)
  | ((with_reducible refine gate_callee (f := 12) rfl ?_); refine gL (some 11) Tryz.func12 #[.int .i64 a0, .int .i64 9] ?_; (with_reducible refine (lockkeeperlaw0_Low.calls a0 9 _ _ A1.out).mono ?_); rintro e w' ⟨rfl, ⟨nd, rfl⟩⟩; refine ⟨_, rfl, ?_⟩; generalize hW : World.drewN _ nd = W; have BK1 : Aside0 (W.heap[w1.heap.size]? = some (.cells #[.string (⟨#[84, 82, 65, 67, 69]⟩ : ByteArray), .string (⟨#[120]⟩ : ByteArray), .string (⟨#[121]⟩ : ByteArray), .int .i64 9, .bool false, .slice Ao y.length co, .int .i64 7, .int .u64 601, .int .i64 (-1), .int .i64 0] 26 (0, 0))) := ⟨by rw [← hW]; exact kN (kA (blk_new _ _) _) _⟩; have BK2 : Aside0 (W.heap[w1.heap.size + 1]? = some (.cells #[.int .i64 3, .int .i64 3, .int .i64 5, .int .i64 7, .int .i64 6, .int .i64 8, .int .i64 9, .int .i64 2, .int .i64 0] 34 (0, 0))) := ⟨by rw [← hW]; refine kN ?_ _; simpa using blk_new (World.alloc w1 _) _⟩; replace HO1 : Aside0 (k28.R 28 W w.heap.size (fun _ => True) (.slice Ao y.length co) y) := ⟨by rw [← hW]; exact rK HO1.out⟩; have HB' : Aside0 (Below w.heap.size w W) := ⟨by rw [← hW]; exact bE⟩; have GE1 : Aside0 (w.heap.size ≤ w1.heap.size) := ⟨below_size HB.out⟩; replace HB := HB'; clear HB' hW; generalize w1.heap.size = g1 at BK1 BK2 GE1 ⊢; have NB : Aside0 (g1 + 1 ≠ g1) := ⟨by omega⟩; have NB' : Aside0 (g1 ≠ g1 + 1) := ⟨by omega⟩; generalize g1 + 1 = g2 at BK2 NB NB' ⊢; obtain ⟨z0, z1, z2, z3, z4, z5, z6, z7, z8, z9, y0, y1, y2, y3, y4, y5, y6, y7, y8, y9⟩ := bk10_ BK1))
 refine nameW (C := fun w_ => Code.wp _ _ _ _ w_) ?_
 intro X hX
 have BKx : Aside0 (X.heap[g1]? = some (.cells #[.string (⟨#[84, 82, 65, 67, 69]⟩ : ByteArray), .string (⟨#[104, 116, 116, 112, 58, 47, 47, 104, 47]⟩ : ByteArray), .string (⟨#[104, 116, 116, 112, 58, 47, 47, 104]⟩ : ByteArray), .int .i64 9, .bool false, .slice Ao y.length co, .int .i64 7, .int .u64 601, .int .i64 (-1), .int .i64 0] 26 (0, 0))) := ⟨by rw [hX]; exact kT⟩
 have BKy : Aside0 (X.heap[g2]? = some (.cells #[.int .i64 3, .int .i64 3, .int .i64 5, .int .i64 7, .int .i64 6, .int .i64 8, .int .i64 9, .int .i64 2, .int .i64 0] 34 (0, 0))) := ⟨by rw [hX]; exact kT⟩
 have HBx : Aside0 (Below w.heap.size w X) := ⟨by rw [hX]; exact bE⟩
 have HOx : Aside0 (k28.R 28 X w.heap.size (fun k => True ∧ k ≠ g1) (.slice Ao y.length co) y) := ⟨by rw [hX]; have z_ := Kd.R_types HO1.out BK1.out (by decide); (repeat (first | exact z_ | refine Kd.R_far (p := ⟨g1, _, none⟩) ?_ (fun _ hk => hk.2) _))⟩
 clear hX HB BK1 BK2 HO1 z0 z1 z2 z3 z4 z5 z6 z7 z8 z9 y0 y1 y2 y3 y4 y5 y6 y7 y8 y9
 have HB := HBx
 clear HBx
 refine start_ (n := 10) (S := fun w' => w'.cell? ⟨g1, 0, none⟩ = some (.string (⟨#[84, 82, 65, 67, 69]⟩ : ByteArray)) ∧ w'.cell? ⟨g1, 1, none⟩ = some (.string (⟨#[104, 116, 116, 112, 58, 47, 47, 104, 47]⟩ : ByteArray)) ∧ w'.cell? ⟨g1, 2, none⟩ = some (.string (⟨#[104, 116, 116, 112, 58, 47, 47, 104]⟩ : ByteArray)) ∧ w'.cell? ⟨g1, 3, none⟩ = some (.int .i64 9) ∧ w'.cell? ⟨g1, 4, none⟩ = some (.bool false) ∧ w'.cell? ⟨g1, 5, none⟩ = some (.slice Ao y.length co) ∧ w'.cell? ⟨g1, 6, none⟩ = some (.int .i64 7) ∧ w'.cell? ⟨g1, 7, none⟩ = some (.int .u64 601) ∧ w'.cell? ⟨g1, 8, none⟩ = some (.int .i64 (-1)) ∧ w'.cell? ⟨g1, 9, none⟩ = some (.int .i64 0) ∧ w'.cell? ⟨g2, 2, none⟩ = some (.int .i64 5)) (ds := []) (bz 10 0) (by kernel_rfl) rfl rfl (bkd10_ (t := 26) ⟨kD BKx.out⟩ ((blk_cell (kD BKy.out) 2).trans rfl)) (fun hHeld => ?_)
 replace BKx : Aside0 (X.drew.heap[g1]? = _) := ⟨kD BKx.out⟩
 replace BKy : Aside0 (X.drew.heap[g2]? = _) := ⟨kD BKy.out⟩
 replace HB : Aside0 (Below w.heap.size w X.drew) := ⟨bD HB.out⟩
 replace HOx := Aside0.mk (Kd.R_drew HOx.out)
 generalize X.drew = w3 at BKx BKy HB hHeld HOx ⊢
 refine tA11 (i := 0) (N := some 36) (bz 10 1) (by kernel_rfl) hHeld ?_
 refine pA (i := 2) (N := some 38) (bz 10 5) (by kernel_rfl) ?_
 refine pA (i := 3) (N := some 39) (bz 10 13) (by kernel_rfl) ?_
 refine tA11 (i := 4) (N := some 40) (bz 10 29) (by kernel_rfl) hHeld ?_
 refine one_ (i := 1) (N := some 37) (bz 10 31) rfl rfl (by kernel_rfl) (by decide) (fun K hK => ?_)
 refine gS Tryz.func13 #[.agg #[.string (⟨#[84, 82, 65, 67, 69]⟩ : ByteArray), .string (⟨#[104, 116, 116, 112, 58, 47, 47, 104, 47]⟩ : ByteArray), .string (⟨#[104, 116, 116, 112, 58, 47, 47, 104]⟩ : ByteArray), .int .i64 9, .bool false, .slice Ao y.length co, .int .i64 7, .int .u64 601, .int .i64 (-1), .int .i64 0]] ?_
 refine (ask_Check.calls k (⟨#[84, 82, 65, 67, 69]⟩ : ByteArray) (⟨#[104, 116, 116, 112, 58, 47, 47, 104, 47]⟩ : ByteArray) (⟨#[104, 116, 116, 112, 58, 47, 47, 104]⟩ : ByteArray) 9 false _ _ y 7 601 (-1) 0 _ _ ?side1 ?side2 ?side3 A2.out).mono ?_
 (case side1 => exact (Kd.R_reads' HOx.out).2.2); (case side2 => exact (Kd.R_reads' HOx.out).2.1)
 (case side3 => exact ⟨lE⟩)
 rintro e w4 ⟨rfl, hb⟩
 refine ⟨_, rfl, ?_⟩
 replace BKx := kM BKx hb
 replace BKy := kM BKy hb
 replace HB := bS bE hb
 clear hb
 refine hK.out _ _ (bkd10_ BKx ((blk_cell BKy.out 2).trans rfl)) (fun hHeld => ?_)
 clear hK K
 refine nA 37 ?_
 refine pA (i := 5) (N := some 41) (bz 10 63) (by kernel_rfl) ?_
 refine pA (i := 6) (N := some 42) (bz 10 127) (by kernel_rfl) ?_
 refine one_ (i := 7) (N := some 43) (bz 10 255) rfl rfl (by kernel_rfl) (by decide) (fun K hK => ?_)
 refine gS Tryz.func15 #[] ?_
 refine (lockkeeperlaw8_awake.calls k true _ ?side4 A3.out).mono ?_
 (case side4 => exact ⟨lE⟩)
 rintro e w5 ⟨rfl, hb⟩
 refine ⟨_, rfl, ?_⟩
 replace BKx := kM BKx hb
 replace BKy := kM BKy hb
 replace HB := bS bE hb
 clear hb
 refine hK.out _ _ (bkd10_ BKx ((blk_cell BKy.out 2).trans rfl)) (fun hHeld => ?_)
 clear hK K
 refine nA 43 ?_
 refine pA (i := 8) (N := some 44) (bz 10 511) (by kernel_rfl) ?_
 refine pA (i := 9) (N := some 2) (bz 10 1023) (by kernel_rfl) ?_
 refine done_ (by kernel_rfl) ?_
 try go_wp2
 go_ret
 exact ⟨rE, bE⟩
set_option maxHeartbeats 8000000 in
set_option maxRecDepth 100000 in
theorem ao3 (k : Nat) (a0 : Int) (y : List S28) (w : World) (hM_ : Aside0 (LaidW w)) (Ny : Aside0 (y = [(⟨(⟨#[]⟩ : ByteArray), (⟨#[]⟩ : ByteArray)⟩ : S28)])) (A1 : Aside0 (lockkeeperlaw0_Low.f a0 9 = some 3)) (A2 : Aside0 (ask_Check.f k (⟨#[71, 69, 84]⟩ : ByteArray) (⟨#[104, 116, 116, 112, 58, 47, 47, 104, 47]⟩ : ByteArray) (⟨#[104, 116, 116, 112, 58, 47, 47, 104]⟩ : ByteArray) 9 false y 7 601 (-1) 0 = some 7)) (A3 : Aside0 (lockkeeperlaw8_awake.f k = some true)) :
  Calls Tryz.prog 4 #[.int .i64 a0] w fun e w' => e = .returned (.bool true) ∧ Below w.heap.size w w' := by
 have hu26 := Tryz.underlying26
 have hu28 := Tryz.underlying28
 have hu34 := Tryz.underlying34
 have HB := Aside0.mk (Below.refl w.heap.size w)
 go_enter Tryz.func4, Tryz.ntmps4
 go_wp2_with (first
  | ((with_reducible refine gate_dst (N := 7) rfl ?_); refine Kd.R_lit k28 _ 28 ?hg (N := 7) ?hd (xs := ([(⟨(⟨#[]⟩ : ByteArray), (⟨#[]⟩ : ByteArray)⟩ : S28)] : List S28)) (inner := [.string (⟨#[]⟩ : ByteArray), .string (⟨#[]⟩ : ByteArray)]) (ok := fun _ => True) (okp := fun _ => True) ?hr ?hp (fun _ hk => hk) trivial (Below.refl _ _) (Nat.le_refl _) (by simp) ?_; (case hd => rfl); (case hg => rfl); (case hr => first | (go_simp; done) | (go_simp; rfl)); (case hp => exact (Reps.c2 (show Kd.M k28 _ _ _ (⟨(⟨#[]⟩ : ByteArray), (⟨#[]⟩ : ByteArray)⟩ : S28) [.string (⟨#[]⟩ : ByteArray), .string (⟨#[]⟩ : ByteArray)] from (k28_mkM _ _ _ (⟨(⟨#[]⟩ : ByteArray), (⟨#[]⟩ : ByteArray)⟩ : S28))) (Reps.none _ _))); intro v1 w1 ho hb hg_ hnew_; clear hg_ hnew_; rw [← Ny.out] at ho; have HO1 := Aside0.mk (Kd.R_lower ho (below_size bE)); replace HB := bS bE hb; clear hb ho; obtain ⟨Ao, co, eo⟩ := Kd.R_slice HO1.out; subst eo)
  | ((with_reducible refine gate_callee (f := 12) rfl ?_); refine gL (some 11) Tryz.func12 #[.int .i64 a0, .int .i64 9] ?_; (with_reducible refine (lockkeeperlaw0_Low.calls a0 9 _ _ A1.out).mono ?_); rintro e w' ⟨rfl, ⟨nd, rfl⟩⟩; refine ⟨_, rfl, ?_⟩; generalize hW : World.drewN _ nd = W; have BK1 : Aside0 (W.heap[w1.heap.size]? = some (.cells #[.string (⟨#[84, 82, 65, 67, 69]⟩ : ByteArray), .string (⟨#[120]⟩ : ByteArray), .string (⟨#[121]⟩ : ByteArray), .int .i64 9, .bool false, .slice Ao y.length co, .int .i64 7, .int .u64 601, .int .i64 (-1), .int .i64 0] 26 (0, 0))) := ⟨by rw [← hW]; exact kN (kA (blk_new _ _) _) _⟩; have BK2 : Aside0 (W.heap[w1.heap.size + 1]? = some (.cells #[.int .i64 3, .int .i64 3, .int .i64 5, .int .i64 7, .int .i64 6, .int .i64 8, .int .i64 9, .int .i64 2, .int .i64 0] 34 (0, 0))) := ⟨by rw [← hW]; refine kN ?_ _; simpa using blk_new (World.alloc w1 _) _⟩; replace HO1 : Aside0 (k28.R 28 W w.heap.size (fun _ => True) (.slice Ao y.length co) y) := ⟨by rw [← hW]; exact rK HO1.out⟩; have HB' : Aside0 (Below w.heap.size w W) := ⟨by rw [← hW]; exact bE⟩; have GE1 : Aside0 (w.heap.size ≤ w1.heap.size) := ⟨below_size HB.out⟩; replace HB := HB'; clear HB' hW; generalize w1.heap.size = g1 at BK1 BK2 GE1 ⊢; have NB : Aside0 (g1 + 1 ≠ g1) := ⟨by omega⟩; have NB' : Aside0 (g1 ≠ g1 + 1) := ⟨by omega⟩; generalize g1 + 1 = g2 at BK2 NB NB' ⊢; obtain ⟨z0, z1, z2, z3, z4, z5, z6, z7, z8, z9, y0, y1, y2, y3, y4, y5, y6, y7, y8, y9⟩ := bk10_ BK1))
 refine nameW (C := fun w_ => Code.wp _ _ _ _ w_) ?_
 intro X hX
 have BKx : Aside0 (X.heap[g1]? = some (.cells #[.string (⟨#[71, 69, 84]⟩ : ByteArray), .string (⟨#[104, 116, 116, 112, 58, 47, 47, 104, 47]⟩ : ByteArray), .string (⟨#[104, 116, 116, 112, 58, 47, 47, 104]⟩ : ByteArray), .int .i64 9, .bool false, .slice Ao y.length co, .int .i64 7, .int .u64 601, .int .i64 (-1), .int .i64 0] 26 (0, 0))) := ⟨by rw [hX]; exact kT⟩
 have BKy : Aside0 (X.heap[g2]? = some (.cells #[.int .i64 3, .int .i64 3, .int .i64 5, .int .i64 7, .int .i64 6, .int .i64 8, .int .i64 9, .int .i64 2, .int .i64 0] 34 (0, 0))) := ⟨by rw [hX]; exact kT⟩
 have HBx : Aside0 (Below w.heap.size w X) := ⟨by rw [hX]; exact bE⟩
 have HOx : Aside0 (k28.R 28 X w.heap.size (fun k => True ∧ k ≠ g1) (.slice Ao y.length co) y) := ⟨by rw [hX]; have z_ := Kd.R_types HO1.out BK1.out (by decide); (repeat (first | exact z_ | refine Kd.R_far (p := ⟨g1, _, none⟩) ?_ (fun _ hk => hk.2) _))⟩
 clear hX HB BK1 BK2 HO1 z0 z1 z2 z3 z4 z5 z6 z7 z8 z9 y0 y1 y2 y3 y4 y5 y6 y7 y8 y9
 have HB := HBx
 clear HBx
 refine start_ (n := 10) (S := fun w' => w'.cell? ⟨g1, 0, none⟩ = some (.string (⟨#[71, 69, 84]⟩ : ByteArray)) ∧ w'.cell? ⟨g1, 1, none⟩ = some (.string (⟨#[104, 116, 116, 112, 58, 47, 47, 104, 47]⟩ : ByteArray)) ∧ w'.cell? ⟨g1, 2, none⟩ = some (.string (⟨#[104, 116, 116, 112, 58, 47, 47, 104]⟩ : ByteArray)) ∧ w'.cell? ⟨g1, 3, none⟩ = some (.int .i64 9) ∧ w'.cell? ⟨g1, 4, none⟩ = some (.bool false) ∧ w'.cell? ⟨g1, 5, none⟩ = some (.slice Ao y.length co) ∧ w'.cell? ⟨g1, 6, none⟩ = some (.int .i64 7) ∧ w'.cell? ⟨g1, 7, none⟩ = some (.int .u64 601) ∧ w'.cell? ⟨g1, 8, none⟩ = some (.int .i64 (-1)) ∧ w'.cell? ⟨g1, 9, none⟩ = some (.int .i64 0) ∧ w'.cell? ⟨g2, 3, none⟩ = some (.int .i64 7)) (ds := []) (bz 10 0) (by kernel_rfl) rfl rfl (bkd10_ (t := 26) ⟨kD BKx.out⟩ ((blk_cell (kD BKy.out) 3).trans rfl)) (fun hHeld => ?_)
 replace BKx : Aside0 (X.drew.heap[g1]? = _) := ⟨kD BKx.out⟩
 replace BKy : Aside0 (X.drew.heap[g2]? = _) := ⟨kD BKy.out⟩
 replace HB : Aside0 (Below w.heap.size w X.drew) := ⟨bD HB.out⟩
 replace HOx := Aside0.mk (Kd.R_drew HOx.out)
 generalize X.drew = w3 at BKx BKy HB hHeld HOx ⊢
 refine tA11 (i := 0) (N := some 36) (bz 10 1) (by kernel_rfl) hHeld ?_
 refine pA (i := 2) (N := some 38) (bz 10 5) (by kernel_rfl) ?_
 refine pA (i := 3) (N := some 39) (bz 10 13) (by kernel_rfl) ?_
 refine tA11 (i := 4) (N := some 40) (bz 10 29) (by kernel_rfl) hHeld ?_
 refine one_ (i := 1) (N := some 37) (bz 10 31) rfl rfl (by kernel_rfl) (by decide) (fun K hK => ?_)
 refine gS Tryz.func13 #[.agg #[.string (⟨#[71, 69, 84]⟩ : ByteArray), .string (⟨#[104, 116, 116, 112, 58, 47, 47, 104, 47]⟩ : ByteArray), .string (⟨#[104, 116, 116, 112, 58, 47, 47, 104]⟩ : ByteArray), .int .i64 9, .bool false, .slice Ao y.length co, .int .i64 7, .int .u64 601, .int .i64 (-1), .int .i64 0]] ?_
 refine (ask_Check.calls k (⟨#[71, 69, 84]⟩ : ByteArray) (⟨#[104, 116, 116, 112, 58, 47, 47, 104, 47]⟩ : ByteArray) (⟨#[104, 116, 116, 112, 58, 47, 47, 104]⟩ : ByteArray) 9 false _ _ y 7 601 (-1) 0 _ _ ?side1 ?side2 ?side3 A2.out).mono ?_
 (case side1 => exact (Kd.R_reads' HOx.out).2.2); (case side2 => exact (Kd.R_reads' HOx.out).2.1)
 (case side3 => exact ⟨lE⟩)
 rintro e w4 ⟨rfl, hb⟩
 refine ⟨_, rfl, ?_⟩
 replace BKx := kM BKx hb
 replace BKy := kM BKy hb
 replace HB := bS bE hb
 clear hb
 refine hK.out _ _ (bkd10_ BKx ((blk_cell BKy.out 3).trans rfl)) (fun hHeld => ?_)
 clear hK K
 refine nA 37 ?_
 refine pA (i := 5) (N := some 41) (bz 10 63) (by kernel_rfl) ?_
 refine pA (i := 6) (N := some 42) (bz 10 127) (by kernel_rfl) ?_
 refine one_ (i := 7) (N := some 43) (bz 10 255) rfl rfl (by kernel_rfl) (by decide) (fun K hK => ?_)
 refine gS Tryz.func15 #[] ?_
 refine (lockkeeperlaw8_awake.calls k true _ ?side4 A3.out).mono ?_
 (case side4 => exact ⟨lE⟩)
 rintro e w5 ⟨rfl, hb⟩
 refine ⟨_, rfl, ?_⟩
 replace BKx := kM BKx hb
 replace BKy := kM BKy hb
 replace HB := bS bE hb
 clear hb
 refine hK.out _ _ (bkd10_ BKx ((blk_cell BKy.out 3).trans rfl)) (fun hHeld => ?_)
 clear hK K
 refine nA 43 ?_
 refine pA (i := 8) (N := some 44) (bz 10 511) (by kernel_rfl) ?_
 refine pA (i := 9) (N := some 2) (bz 10 1023) (by kernel_rfl) ?_
 refine done_ (by kernel_rfl) ?_
 try go_wp2
 go_ret
 exact ⟨rE, bE⟩
set_option maxHeartbeats 8000000 in
set_option maxRecDepth 100000 in
theorem ao4 (k : Nat) (a0 : Int) (y : List S28) (w : World) (hM_ : Aside0 (LaidW w)) (Ny : Aside0 (y = [(⟨(⟨#[]⟩ : ByteArray), (⟨#[]⟩ : ByteArray)⟩ : S28)])) (A1 : Aside0 (lockkeeperlaw0_Low.f a0 9 = some 4)) (A2 : Aside0 (ask_Check.f k (⟨#[71, 69, 84]⟩ : ByteArray) (⟨#[104, 116, 116, 112, 58, 47, 47, 104, 47]⟩ : ByteArray) (⟨#[104, 116, 116, 112, 58, 47, 47, 104]⟩ : ByteArray) 1 false y 7 601 (-1) 0 = some 6)) (A3 : Aside0 (lockkeeperlaw8_awake.f k = some true)) :
  Calls Tryz.prog 4 #[.int .i64 a0] w fun e w' => e = .returned (.bool true) ∧ Below w.heap.size w w' := by
 have hu26 := Tryz.underlying26
 have hu28 := Tryz.underlying28
 have hu34 := Tryz.underlying34
 have HB := Aside0.mk (Below.refl w.heap.size w)
 go_enter Tryz.func4, Tryz.ntmps4
 go_wp2_with (first
  | ((with_reducible refine gate_dst (N := 7) rfl ?_); refine Kd.R_lit k28 _ 28 ?hg (N := 7) ?hd (xs := ([(⟨(⟨#[]⟩ : ByteArray), (⟨#[]⟩ : ByteArray)⟩ : S28)] : List S28)) (inner := [.string (⟨#[]⟩ : ByteArray), .string (⟨#[]⟩ : ByteArray)]) (ok := fun _ => True) (okp := fun _ => True) ?hr ?hp (fun _ hk => hk) trivial (Below.refl _ _) (Nat.le_refl _) (by simp) ?_; (case hd => rfl); (case hg => rfl); (case hr => first | (go_simp; done) | (go_simp; rfl)); (case hp => exact (Reps.c2 (show Kd.M k28 _ _ _ (⟨(⟨#[]⟩ : ByteArray), (⟨#[]⟩ : ByteArray)⟩ : S28) [.string (⟨#[]⟩ : ByteArray), .string (⟨#[]⟩ : ByteArray)] from (k28_mkM _ _ _ (⟨(⟨#[]⟩ : ByteArray), (⟨#[]⟩ : ByteArray)⟩ : S28))) (Reps.none _ _))); intro v1 w1 ho hb hg_ hnew_; clear hg_ hnew_; rw [← Ny.out] at ho; have HO1 := Aside0.mk (Kd.R_lower ho (below_size bE)); replace HB := bS bE hb; clear hb ho; obtain ⟨Ao, co, eo⟩ := Kd.R_slice HO1.out; subst eo)
  | ((with_reducible refine gate_callee (f := 12) rfl ?_); refine gL (some 11) Tryz.func12 #[.int .i64 a0, .int .i64 9] ?_; (with_reducible refine (lockkeeperlaw0_Low.calls a0 9 _ _ A1.out).mono ?_); rintro e w' ⟨rfl, ⟨nd, rfl⟩⟩; refine ⟨_, rfl, ?_⟩; generalize hW : World.drewN _ nd = W; have BK1 : Aside0 (W.heap[w1.heap.size]? = some (.cells #[.string (⟨#[84, 82, 65, 67, 69]⟩ : ByteArray), .string (⟨#[120]⟩ : ByteArray), .string (⟨#[121]⟩ : ByteArray), .int .i64 9, .bool false, .slice Ao y.length co, .int .i64 7, .int .u64 601, .int .i64 (-1), .int .i64 0] 26 (0, 0))) := ⟨by rw [← hW]; exact kN (kA (blk_new _ _) _) _⟩; have BK2 : Aside0 (W.heap[w1.heap.size + 1]? = some (.cells #[.int .i64 3, .int .i64 3, .int .i64 5, .int .i64 7, .int .i64 6, .int .i64 8, .int .i64 9, .int .i64 2, .int .i64 0] 34 (0, 0))) := ⟨by rw [← hW]; refine kN ?_ _; simpa using blk_new (World.alloc w1 _) _⟩; replace HO1 : Aside0 (k28.R 28 W w.heap.size (fun _ => True) (.slice Ao y.length co) y) := ⟨by rw [← hW]; exact rK HO1.out⟩; have HB' : Aside0 (Below w.heap.size w W) := ⟨by rw [← hW]; exact bE⟩; have GE1 : Aside0 (w.heap.size ≤ w1.heap.size) := ⟨below_size HB.out⟩; replace HB := HB'; clear HB' hW; generalize w1.heap.size = g1 at BK1 BK2 GE1 ⊢; have NB : Aside0 (g1 + 1 ≠ g1) := ⟨by omega⟩; have NB' : Aside0 (g1 ≠ g1 + 1) := ⟨by omega⟩; generalize g1 + 1 = g2 at BK2 NB NB' ⊢; obtain ⟨z0, z1, z2, z3, z4, z5, z6, z7, z8, z9, y0, y1, y2, y3, y4, y5, y6, y7, y8, y9⟩ := bk10_ BK1))
 refine nameW (C := fun w_ => Code.wp _ _ _ _ w_) ?_
 intro X hX
 have BKx : Aside0 (X.heap[g1]? = some (.cells #[.string (⟨#[71, 69, 84]⟩ : ByteArray), .string (⟨#[104, 116, 116, 112, 58, 47, 47, 104, 47]⟩ : ByteArray), .string (⟨#[104, 116, 116, 112, 58, 47, 47, 104]⟩ : ByteArray), .int .i64 1, .bool false, .slice Ao y.length co, .int .i64 7, .int .u64 601, .int .i64 (-1), .int .i64 0] 26 (0, 0))) := ⟨by rw [hX]; exact kT⟩
 have BKy : Aside0 (X.heap[g2]? = some (.cells #[.int .i64 3, .int .i64 3, .int .i64 5, .int .i64 7, .int .i64 6, .int .i64 8, .int .i64 9, .int .i64 2, .int .i64 0] 34 (0, 0))) := ⟨by rw [hX]; exact kT⟩
 have HBx : Aside0 (Below w.heap.size w X) := ⟨by rw [hX]; exact bE⟩
 have HOx : Aside0 (k28.R 28 X w.heap.size (fun k => True ∧ k ≠ g1) (.slice Ao y.length co) y) := ⟨by rw [hX]; have z_ := Kd.R_types HO1.out BK1.out (by decide); (repeat (first | exact z_ | refine Kd.R_far (p := ⟨g1, _, none⟩) ?_ (fun _ hk => hk.2) _))⟩
 clear hX HB BK1 BK2 HO1 z0 z1 z2 z3 z4 z5 z6 z7 z8 z9 y0 y1 y2 y3 y4 y5 y6 y7 y8 y9
 have HB := HBx
 clear HBx
 refine start_ (n := 10) (S := fun w' => w'.cell? ⟨g1, 0, none⟩ = some (.string (⟨#[71, 69, 84]⟩ : ByteArray)) ∧ w'.cell? ⟨g1, 1, none⟩ = some (.string (⟨#[104, 116, 116, 112, 58, 47, 47, 104, 47]⟩ : ByteArray)) ∧ w'.cell? ⟨g1, 2, none⟩ = some (.string (⟨#[104, 116, 116, 112, 58, 47, 47, 104]⟩ : ByteArray)) ∧ w'.cell? ⟨g1, 3, none⟩ = some (.int .i64 1) ∧ w'.cell? ⟨g1, 4, none⟩ = some (.bool false) ∧ w'.cell? ⟨g1, 5, none⟩ = some (.slice Ao y.length co) ∧ w'.cell? ⟨g1, 6, none⟩ = some (.int .i64 7) ∧ w'.cell? ⟨g1, 7, none⟩ = some (.int .u64 601) ∧ w'.cell? ⟨g1, 8, none⟩ = some (.int .i64 (-1)) ∧ w'.cell? ⟨g1, 9, none⟩ = some (.int .i64 0) ∧ w'.cell? ⟨g2, 4, none⟩ = some (.int .i64 6)) (ds := []) (bz 10 0) (by kernel_rfl) rfl rfl (bkd10_ (t := 26) ⟨kD BKx.out⟩ ((blk_cell (kD BKy.out) 4).trans rfl)) (fun hHeld => ?_)
 replace BKx : Aside0 (X.drew.heap[g1]? = _) := ⟨kD BKx.out⟩
 replace BKy : Aside0 (X.drew.heap[g2]? = _) := ⟨kD BKy.out⟩
 replace HB : Aside0 (Below w.heap.size w X.drew) := ⟨bD HB.out⟩
 replace HOx := Aside0.mk (Kd.R_drew HOx.out)
 generalize X.drew = w3 at BKx BKy HB hHeld HOx ⊢
 refine tA11 (i := 0) (N := some 36) (bz 10 1) (by kernel_rfl) hHeld ?_
 refine pA (i := 2) (N := some 38) (bz 10 5) (by kernel_rfl) ?_
 refine pA (i := 3) (N := some 39) (bz 10 13) (by kernel_rfl) ?_
 refine tA11 (i := 4) (N := some 40) (bz 10 29) (by kernel_rfl) hHeld ?_
 refine one_ (i := 1) (N := some 37) (bz 10 31) rfl rfl (by kernel_rfl) (by decide) (fun K hK => ?_)
 refine gS Tryz.func13 #[.agg #[.string (⟨#[71, 69, 84]⟩ : ByteArray), .string (⟨#[104, 116, 116, 112, 58, 47, 47, 104, 47]⟩ : ByteArray), .string (⟨#[104, 116, 116, 112, 58, 47, 47, 104]⟩ : ByteArray), .int .i64 1, .bool false, .slice Ao y.length co, .int .i64 7, .int .u64 601, .int .i64 (-1), .int .i64 0]] ?_
 refine (ask_Check.calls k (⟨#[71, 69, 84]⟩ : ByteArray) (⟨#[104, 116, 116, 112, 58, 47, 47, 104, 47]⟩ : ByteArray) (⟨#[104, 116, 116, 112, 58, 47, 47, 104]⟩ : ByteArray) 1 false _ _ y 7 601 (-1) 0 _ _ ?side1 ?side2 ?side3 A2.out).mono ?_
 (case side1 => exact (Kd.R_reads' HOx.out).2.2); (case side2 => exact (Kd.R_reads' HOx.out).2.1)
 (case side3 => exact ⟨lE⟩)
 rintro e w4 ⟨rfl, hb⟩
 refine ⟨_, rfl, ?_⟩
 replace BKx := kM BKx hb
 replace BKy := kM BKy hb
 replace HB := bS bE hb
 clear hb
 refine hK.out _ _ (bkd10_ BKx ((blk_cell BKy.out 4).trans rfl)) (fun hHeld => ?_)
 clear hK K
 refine nA 37 ?_
 refine pA (i := 5) (N := some 41) (bz 10 63) (by kernel_rfl) ?_
 refine pA (i := 6) (N := some 42) (bz 10 127) (by kernel_rfl) ?_
 refine one_ (i := 7) (N := some 43) (bz 10 255) rfl rfl (by kernel_rfl) (by decide) (fun K hK => ?_)
 refine gS Tryz.func15 #[] ?_
 refine (lockkeeperlaw8_awake.calls k true _ ?side4 A3.out).mono ?_
 (case side4 => exact ⟨lE⟩)
 rintro e w5 ⟨rfl, hb⟩
 refine ⟨_, rfl, ?_⟩
 replace BKx := kM BKx hb
 replace BKy := kM BKy hb
 replace HB := bS bE hb
 clear hb
 refine hK.out _ _ (bkd10_ BKx ((blk_cell BKy.out 4).trans rfl)) (fun hHeld => ?_)
 clear hK K
 refine nA 43 ?_
 refine pA (i := 8) (N := some 44) (bz 10 511) (by kernel_rfl) ?_
 refine pA (i := 9) (N := some 2) (bz 10 1023) (by kernel_rfl) ?_
 refine done_ (by kernel_rfl) ?_
 try go_wp2
 go_ret
 exact ⟨rE, bE⟩
set_option maxHeartbeats 8000000 in
set_option maxRecDepth 100000 in
theorem ao5 (k : Nat) (a0 : Int) (y : List S28) (w : World) (hM_ : Aside0 (LaidW w)) (Ny : Aside0 (y = [(⟨(⟨#[]⟩ : ByteArray), (⟨#[]⟩ : ByteArray)⟩ : S28)])) (A1 : Aside0 (lockkeeperlaw0_Low.f a0 9 = some 5)) (A2 : Aside0 (ask_Check.f k (⟨#[71, 69, 84]⟩ : ByteArray) (⟨#[104, 116, 116, 112, 58, 47, 47, 104, 47]⟩ : ByteArray) (⟨#[104, 116, 116, 112, 58, 47, 47, 104]⟩ : ByteArray) 1 false ([] : List S28) 7 601 (-1) 0 = some 8)) (A3 : Aside0 (lockkeeperlaw8_awake.f k = some true)) :
  Calls Tryz.prog 4 #[.int .i64 a0] w fun e w' => e = .returned (.bool true) ∧ Below w.heap.size w w' := by
 have hu26 := Tryz.underlying26
 have hu28 := Tryz.underlying28
 have hu34 := Tryz.underlying34
 have HB := Aside0.mk (Below.refl w.heap.size w)
 go_enter Tryz.func4, Tryz.ntmps4
 go_wp2_with (first
  | ((with_reducible refine gate_dst (N := 7) rfl ?_); refine Kd.R_lit k28 _ 28 ?hg (N := 7) ?hd (xs := ([(⟨(⟨#[]⟩ : ByteArray), (⟨#[]⟩ : ByteArray)⟩ : S28)] : List S28)) (inner := [.string (⟨#[]⟩ : ByteArray), .string (⟨#[]⟩ : ByteArray)]) (ok := fun _ => True) (okp := fun _ => True) ?hr ?hp (fun _ hk => hk) trivial (Below.refl _ _) (Nat.le_refl _) (by simp) ?_; (case hd => rfl); (case hg => rfl); (case hr => first | (go_simp; done) | (go_simp; rfl)); (case hp => exact (Reps.c2 (show Kd.M k28 _ _ _ (⟨(⟨#[]⟩ : ByteArray), (⟨#[]⟩ : ByteArray)⟩ : S28) [.string (⟨#[]⟩ : ByteArray), .string (⟨#[]⟩ : ByteArray)] from (k28_mkM _ _ _ (⟨(⟨#[]⟩ : ByteArray), (⟨#[]⟩ : ByteArray)⟩ : S28))) (Reps.none _ _))); intro v1 w1 ho hb hg_ hnew_; clear hg_ hnew_; rw [← Ny.out] at ho; have HO1 := Aside0.mk (Kd.R_lower ho (below_size bE)); replace HB := bS bE hb; clear hb ho; obtain ⟨Ao, co, eo⟩ := Kd.R_slice HO1.out; subst eo)
  | ((with_reducible refine gate_callee (f := 12) rfl ?_); refine gL (some 11) Tryz.func12 #[.int .i64 a0, .int .i64 9] ?_; (with_reducible refine (lockkeeperlaw0_Low.calls a0 9 _ _ A1.out).mono ?_); rintro e w' ⟨rfl, ⟨nd, rfl⟩⟩; refine ⟨_, rfl, ?_⟩; generalize hW : World.drewN _ nd = W; have BK1 : Aside0 (W.heap[w1.heap.size]? = some (.cells #[.string (⟨#[84, 82, 65, 67, 69]⟩ : ByteArray), .string (⟨#[120]⟩ : ByteArray), .string (⟨#[121]⟩ : ByteArray), .int .i64 9, .bool false, .slice Ao y.length co, .int .i64 7, .int .u64 601, .int .i64 (-1), .int .i64 0] 26 (0, 0))) := ⟨by rw [← hW]; exact kN (kA (blk_new _ _) _) _⟩; have BK2 : Aside0 (W.heap[w1.heap.size + 1]? = some (.cells #[.int .i64 3, .int .i64 3, .int .i64 5, .int .i64 7, .int .i64 6, .int .i64 8, .int .i64 9, .int .i64 2, .int .i64 0] 34 (0, 0))) := ⟨by rw [← hW]; refine kN ?_ _; simpa using blk_new (World.alloc w1 _) _⟩; replace HO1 : Aside0 (k28.R 28 W w.heap.size (fun _ => True) (.slice Ao y.length co) y) := ⟨by rw [← hW]; exact rK HO1.out⟩; have HB' : Aside0 (Below w.heap.size w W) := ⟨by rw [← hW]; exact bE⟩; have GE1 : Aside0 (w.heap.size ≤ w1.heap.size) := ⟨below_size HB.out⟩; replace HB := HB'; clear HB' hW; generalize w1.heap.size = g1 at BK1 BK2 GE1 ⊢; have NB : Aside0 (g1 + 1 ≠ g1) := ⟨by omega⟩; have NB' : Aside0 (g1 ≠ g1 + 1) := ⟨by omega⟩; generalize g1 + 1 = g2 at BK2 NB NB' ⊢; obtain ⟨z0, z1, z2, z3, z4, z5, z6, z7, z8, z9, y0, y1, y2, y3, y4, y5, y6, y7, y8, y9⟩ := bk10_ BK1))
 refine nameW (C := fun w_ => Code.wp _ _ _ _ w_) ?_
 intro X hX
 have BKx : Aside0 (X.heap[g1]? = some (.cells #[.string (⟨#[71, 69, 84]⟩ : ByteArray), .string (⟨#[104, 116, 116, 112, 58, 47, 47, 104, 47]⟩ : ByteArray), .string (⟨#[104, 116, 116, 112, 58, 47, 47, 104]⟩ : ByteArray), .int .i64 1, .bool false, .slice none 0 0, .int .i64 7, .int .u64 601, .int .i64 (-1), .int .i64 0] 26 (0, 0))) := ⟨by rw [hX]; exact kT⟩
 have BKy : Aside0 (X.heap[g2]? = some (.cells #[.int .i64 3, .int .i64 3, .int .i64 5, .int .i64 7, .int .i64 6, .int .i64 8, .int .i64 9, .int .i64 2, .int .i64 0] 34 (0, 0))) := ⟨by rw [hX]; exact kT⟩
 have HBx : Aside0 (Below w.heap.size w X) := ⟨by rw [hX]; exact bE⟩
 skip
 clear hX HB BK1 BK2 HO1 z0 z1 z2 z3 z4 z5 z6 z7 z8 z9 y0 y1 y2 y3 y4 y5 y6 y7 y8 y9
 have HB := HBx
 clear HBx
 refine start_ (n := 10) (S := fun w' => w'.cell? ⟨g1, 0, none⟩ = some (.string (⟨#[71, 69, 84]⟩ : ByteArray)) ∧ w'.cell? ⟨g1, 1, none⟩ = some (.string (⟨#[104, 116, 116, 112, 58, 47, 47, 104, 47]⟩ : ByteArray)) ∧ w'.cell? ⟨g1, 2, none⟩ = some (.string (⟨#[104, 116, 116, 112, 58, 47, 47, 104]⟩ : ByteArray)) ∧ w'.cell? ⟨g1, 3, none⟩ = some (.int .i64 1) ∧ w'.cell? ⟨g1, 4, none⟩ = some (.bool false) ∧ w'.cell? ⟨g1, 5, none⟩ = some (.slice none 0 0) ∧ w'.cell? ⟨g1, 6, none⟩ = some (.int .i64 7) ∧ w'.cell? ⟨g1, 7, none⟩ = some (.int .u64 601) ∧ w'.cell? ⟨g1, 8, none⟩ = some (.int .i64 (-1)) ∧ w'.cell? ⟨g1, 9, none⟩ = some (.int .i64 0) ∧ w'.cell? ⟨g2, 5, none⟩ = some (.int .i64 8)) (ds := []) (bz 10 0) (by kernel_rfl) rfl rfl (bkd10_ (t := 26) ⟨kD BKx.out⟩ ((blk_cell (kD BKy.out) 5).trans rfl)) (fun hHeld => ?_)
 replace BKx : Aside0 (X.drew.heap[g1]? = _) := ⟨kD BKx.out⟩
 replace BKy : Aside0 (X.drew.heap[g2]? = _) := ⟨kD BKy.out⟩
 replace HB : Aside0 (Below w.heap.size w X.drew) := ⟨bD HB.out⟩
 skip
 generalize X.drew = w3 at BKx BKy HB hHeld ⊢
 refine tA11 (i := 0) (N := some 36) (bz 10 1) (by kernel_rfl) hHeld ?_
 refine pA (i := 2) (N := some 38) (bz 10 5) (by kernel_rfl) ?_
 refine pA (i := 3) (N := some 39) (bz 10 13) (by kernel_rfl) ?_
 refine tA11 (i := 4) (N := some 40) (bz 10 29) (by kernel_rfl) hHeld ?_
 refine one_ (i := 1) (N := some 37) (bz 10 31) rfl rfl (by kernel_rfl) (by decide) (fun K hK => ?_)
 refine gS Tryz.func13 #[.agg #[.string (⟨#[71, 69, 84]⟩ : ByteArray), .string (⟨#[104, 116, 116, 112, 58, 47, 47, 104, 47]⟩ : ByteArray), .string (⟨#[104, 116, 116, 112, 58, 47, 47, 104]⟩ : ByteArray), .int .i64 1, .bool false, .slice none 0 0, .int .i64 7, .int .u64 601, .int .i64 (-1), .int .i64 0]] ?_
 refine (ask_Check.calls k (⟨#[71, 69, 84]⟩ : ByteArray) (⟨#[104, 116, 116, 112, 58, 47, 47, 104, 47]⟩ : ByteArray) (⟨#[104, 116, 116, 112, 58, 47, 47, 104]⟩ : ByteArray) 1 false _ _ ([] : List S28) 7 601 (-1) 0 _ _ ?side1 ?side2 ?side3 A2.out).mono ?_
 (case side1 => exact Kd.C_nil _ _); (case side2 => exact Nat.le_refl _)
 (case side3 => exact ⟨lE⟩)
 rintro e w4 ⟨rfl, hb⟩
 refine ⟨_, rfl, ?_⟩
 replace BKx := kM BKx hb
 replace BKy := kM BKy hb
 replace HB := bS bE hb
 clear hb
 refine hK.out _ _ (bkd10_ BKx ((blk_cell BKy.out 5).trans rfl)) (fun hHeld => ?_)
 clear hK K
 refine nA 37 ?_
 refine pA (i := 5) (N := some 41) (bz 10 63) (by kernel_rfl) ?_
 refine pA (i := 6) (N := some 42) (bz 10 127) (by kernel_rfl) ?_
 refine one_ (i := 7) (N := some 43) (bz 10 255) rfl rfl (by kernel_rfl) (by decide) (fun K hK => ?_)
 refine gS Tryz.func15 #[] ?_
 refine (lockkeeperlaw8_awake.calls k true _ ?side4 A3.out).mono ?_
 (case side4 => exact ⟨lE⟩)
 rintro e w5 ⟨rfl, hb⟩
 refine ⟨_, rfl, ?_⟩
 replace BKx := kM BKx hb
 replace BKy := kM BKy hb
 replace HB := bS bE hb
 clear hb
 refine hK.out _ _ (bkd10_ BKx ((blk_cell BKy.out 5).trans rfl)) (fun hHeld => ?_)
 clear hK K
 refine nA 43 ?_
 refine pA (i := 8) (N := some 44) (bz 10 511) (by kernel_rfl) ?_
 refine pA (i := 9) (N := some 2) (bz 10 1023) (by kernel_rfl) ?_
 refine done_ (by kernel_rfl) ?_
 try go_wp2
 go_ret
 exact ⟨rE, bE⟩
set_option maxHeartbeats 8000000 in
set_option maxRecDepth 100000 in
theorem ao6 (k : Nat) (a0 : Int) (y : List S28) (w : World) (hM_ : Aside0 (LaidW w)) (Ny : Aside0 (y = [(⟨(⟨#[]⟩ : ByteArray), (⟨#[]⟩ : ByteArray)⟩ : S28)])) (A1 : Aside0 (lockkeeperlaw0_Low.f a0 9 = some 6)) (A2 : Aside0 (ask_Check.f k (⟨#[71, 69, 84]⟩ : ByteArray) (⟨#[104, 116, 116, 112, 58, 47, 47, 104, 47]⟩ : ByteArray) (⟨#[104, 116, 116, 112, 58, 47, 47, 104]⟩ : ByteArray) 1 false ([] : List S28) 6 601 (-1) 0 = some 9)) (A3 : Aside0 (lockkeeperlaw8_awake.f k = some true)) :
  Calls Tryz.prog 4 #[.int .i64 a0] w fun e w' => e = .returned (.bool true) ∧ Below w.heap.size w w' := by
 have hu26 := Tryz.underlying26
 have hu28 := Tryz.underlying28
 have hu34 := Tryz.underlying34
 have HB := Aside0.mk (Below.refl w.heap.size w)
 go_enter Tryz.func4, Tryz.ntmps4
 go_wp2_with (first
  | ((with_reducible refine gate_dst (N := 7) rfl ?_); refine Kd.R_lit k28 _ 28 ?hg (N := 7) ?hd (xs := ([(⟨(⟨#[]⟩ : ByteArray), (⟨#[]⟩ : ByteArray)⟩ : S28)] : List S28)) (inner := [.string (⟨#[]⟩ : ByteArray), .string (⟨#[]⟩ : ByteArray)]) (ok := fun _ => True) (okp := fun _ => True) ?hr ?hp (fun _ hk => hk) trivial (Below.refl _ _) (Nat.le_refl _) (by simp) ?_; (case hd => rfl); (case hg => rfl); (case hr => first | (go_simp; done) | (go_simp; rfl)); (case hp => exact (Reps.c2 (show Kd.M k28 _ _ _ (⟨(⟨#[]⟩ : ByteArray), (⟨#[]⟩ : ByteArray)⟩ : S28) [.string (⟨#[]⟩ : ByteArray), .string (⟨#[]⟩ : ByteArray)] from (k28_mkM _ _ _ (⟨(⟨#[]⟩ : ByteArray), (⟨#[]⟩ : ByteArray)⟩ : S28))) (Reps.none _ _))); intro v1 w1 ho hb hg_ hnew_; clear hg_ hnew_; rw [← Ny.out] at ho; have HO1 := Aside0.mk (Kd.R_lower ho (below_size bE)); replace HB := bS bE hb; clear hb ho; obtain ⟨Ao, co, eo⟩ := Kd.R_slice HO1.out; subst eo)
  | ((with_reducible refine gate_callee (f := 12) rfl ?_); refine gL (some 11) Tryz.func12 #[.int .i64 a0, .int .i64 9] ?_; (with_reducible refine (lockkeeperlaw0_Low.calls a0 9 _ _ A1.out).mono ?_); rintro e w' ⟨rfl, ⟨nd, rfl⟩⟩; refine ⟨_, rfl, ?_⟩; generalize hW : World.drewN _ nd = W; have BK1 : Aside0 (W.heap[w1.heap.size]? = some (.cells #[.string (⟨#[84, 82, 65, 67, 69]⟩ : ByteArray), .string (⟨#[120]⟩ : ByteArray), .string (⟨#[121]⟩ : ByteArray), .int .i64 9, .bool false, .slice Ao y.length co, .int .i64 7, .int .u64 601, .int .i64 (-1), .int .i64 0] 26 (0, 0))) := ⟨by rw [← hW]; exact kN (kA (blk_new _ _) _) _⟩; have BK2 : Aside0 (W.heap[w1.heap.size + 1]? = some (.cells #[.int .i64 3, .int .i64 3, .int .i64 5, .int .i64 7, .int .i64 6, .int .i64 8, .int .i64 9, .int .i64 2, .int .i64 0] 34 (0, 0))) := ⟨by rw [← hW]; refine kN ?_ _; simpa using blk_new (World.alloc w1 _) _⟩; replace HO1 : Aside0 (k28.R 28 W w.heap.size (fun _ => True) (.slice Ao y.length co) y) := ⟨by rw [← hW]; exact rK HO1.out⟩; have HB' : Aside0 (Below w.heap.size w W) := ⟨by rw [← hW]; exact bE⟩; have GE1 : Aside0 (w.heap.size ≤ w1.heap.size) := ⟨below_size HB.out⟩; replace HB := HB'; clear HB' hW; generalize w1.heap.size = g1 at BK1 BK2 GE1 ⊢; have NB : Aside0 (g1 + 1 ≠ g1) := ⟨by omega⟩; have NB' : Aside0 (g1 ≠ g1 + 1) := ⟨by omega⟩; generalize g1 + 1 = g2 at BK2 NB NB' ⊢; obtain ⟨z0, z1, z2, z3, z4, z5, z6, z7, z8, z9, y0, y1, y2, y3, y4, y5, y6, y7, y8, y9⟩ := bk10_ BK1))
 refine nameW (C := fun w_ => Code.wp _ _ _ _ w_) ?_
 intro X hX
 have BKx : Aside0 (X.heap[g1]? = some (.cells #[.string (⟨#[71, 69, 84]⟩ : ByteArray), .string (⟨#[104, 116, 116, 112, 58, 47, 47, 104, 47]⟩ : ByteArray), .string (⟨#[104, 116, 116, 112, 58, 47, 47, 104]⟩ : ByteArray), .int .i64 1, .bool false, .slice none 0 0, .int .i64 6, .int .u64 601, .int .i64 (-1), .int .i64 0] 26 (0, 0))) := ⟨by rw [hX]; exact kT⟩
 have BKy : Aside0 (X.heap[g2]? = some (.cells #[.int .i64 3, .int .i64 3, .int .i64 5, .int .i64 7, .int .i64 6, .int .i64 8, .int .i64 9, .int .i64 2, .int .i64 0] 34 (0, 0))) := ⟨by rw [hX]; exact kT⟩
 have HBx : Aside0 (Below w.heap.size w X) := ⟨by rw [hX]; exact bE⟩
 skip
 clear hX HB BK1 BK2 HO1 z0 z1 z2 z3 z4 z5 z6 z7 z8 z9 y0 y1 y2 y3 y4 y5 y6 y7 y8 y9
 have HB := HBx
 clear HBx
 refine start_ (n := 10) (S := fun w' => w'.cell? ⟨g1, 0, none⟩ = some (.string (⟨#[71, 69, 84]⟩ : ByteArray)) ∧ w'.cell? ⟨g1, 1, none⟩ = some (.string (⟨#[104, 116, 116, 112, 58, 47, 47, 104, 47]⟩ : ByteArray)) ∧ w'.cell? ⟨g1, 2, none⟩ = some (.string (⟨#[104, 116, 116, 112, 58, 47, 47, 104]⟩ : ByteArray)) ∧ w'.cell? ⟨g1, 3, none⟩ = some (.int .i64 1) ∧ w'.cell? ⟨g1, 4, none⟩ = some (.bool false) ∧ w'.cell? ⟨g1, 5, none⟩ = some (.slice none 0 0) ∧ w'.cell? ⟨g1, 6, none⟩ = some (.int .i64 6) ∧ w'.cell? ⟨g1, 7, none⟩ = some (.int .u64 601) ∧ w'.cell? ⟨g1, 8, none⟩ = some (.int .i64 (-1)) ∧ w'.cell? ⟨g1, 9, none⟩ = some (.int .i64 0) ∧ w'.cell? ⟨g2, 6, none⟩ = some (.int .i64 9)) (ds := []) (bz 10 0) (by kernel_rfl) rfl rfl (bkd10_ (t := 26) ⟨kD BKx.out⟩ ((blk_cell (kD BKy.out) 6).trans rfl)) (fun hHeld => ?_)
 replace BKx : Aside0 (X.drew.heap[g1]? = _) := ⟨kD BKx.out⟩
 replace BKy : Aside0 (X.drew.heap[g2]? = _) := ⟨kD BKy.out⟩
 replace HB : Aside0 (Below w.heap.size w X.drew) := ⟨bD HB.out⟩
 skip
 generalize X.drew = w3 at BKx BKy HB hHeld ⊢
 refine tA11 (i := 0) (N := some 36) (bz 10 1) (by kernel_rfl) hHeld ?_
 refine pA (i := 2) (N := some 38) (bz 10 5) (by kernel_rfl) ?_
 refine pA (i := 3) (N := some 39) (bz 10 13) (by kernel_rfl) ?_
 refine tA11 (i := 4) (N := some 40) (bz 10 29) (by kernel_rfl) hHeld ?_
 refine one_ (i := 1) (N := some 37) (bz 10 31) rfl rfl (by kernel_rfl) (by decide) (fun K hK => ?_)
 refine gS Tryz.func13 #[.agg #[.string (⟨#[71, 69, 84]⟩ : ByteArray), .string (⟨#[104, 116, 116, 112, 58, 47, 47, 104, 47]⟩ : ByteArray), .string (⟨#[104, 116, 116, 112, 58, 47, 47, 104]⟩ : ByteArray), .int .i64 1, .bool false, .slice none 0 0, .int .i64 6, .int .u64 601, .int .i64 (-1), .int .i64 0]] ?_
 refine (ask_Check.calls k (⟨#[71, 69, 84]⟩ : ByteArray) (⟨#[104, 116, 116, 112, 58, 47, 47, 104, 47]⟩ : ByteArray) (⟨#[104, 116, 116, 112, 58, 47, 47, 104]⟩ : ByteArray) 1 false _ _ ([] : List S28) 6 601 (-1) 0 _ _ ?side1 ?side2 ?side3 A2.out).mono ?_
 (case side1 => exact Kd.C_nil _ _); (case side2 => exact Nat.le_refl _)
 (case side3 => exact ⟨lE⟩)
 rintro e w4 ⟨rfl, hb⟩
 refine ⟨_, rfl, ?_⟩
 replace BKx := kM BKx hb
 replace BKy := kM BKy hb
 replace HB := bS bE hb
 clear hb
 refine hK.out _ _ (bkd10_ BKx ((blk_cell BKy.out 6).trans rfl)) (fun hHeld => ?_)
 clear hK K
 refine nA 37 ?_
 refine pA (i := 5) (N := some 41) (bz 10 63) (by kernel_rfl) ?_
 refine pA (i := 6) (N := some 42) (bz 10 127) (by kernel_rfl) ?_
 refine one_ (i := 7) (N := some 43) (bz 10 255) rfl rfl (by kernel_rfl) (by decide) (fun K hK => ?_)
 refine gS Tryz.func15 #[] ?_
 refine (lockkeeperlaw8_awake.calls k true _ ?side4 A3.out).mono ?_
 (case side4 => exact ⟨lE⟩)
 rintro e w5 ⟨rfl, hb⟩
 refine ⟨_, rfl, ?_⟩
 replace BKx := kM BKx hb
 replace BKy := kM BKy hb
 replace HB := bS bE hb
 clear hb
 refine hK.out _ _ (bkd10_ BKx ((blk_cell BKy.out 6).trans rfl)) (fun hHeld => ?_)
 clear hK K
 refine nA 43 ?_
 refine pA (i := 8) (N := some 44) (bz 10 511) (by kernel_rfl) ?_
 refine pA (i := 9) (N := some 2) (bz 10 1023) (by kernel_rfl) ?_
 refine done_ (by kernel_rfl) ?_
 try go_wp2
 go_ret
 exact ⟨rE, bE⟩
set_option maxHeartbeats 8000000 in
set_option maxRecDepth 100000 in
theorem ao7 (k : Nat) (a0 : Int) (y : List S28) (w : World) (hM_ : Aside0 (LaidW w)) (Ny : Aside0 (y = [(⟨(⟨#[]⟩ : ByteArray), (⟨#[]⟩ : ByteArray)⟩ : S28)])) (A1 : Aside0 (lockkeeperlaw0_Low.f a0 9 = some 7)) (A2 : Aside0 (ask_Check.f k (⟨#[71, 69, 84]⟩ : ByteArray) (⟨#[104, 116, 116, 112, 58, 47, 47, 104, 47]⟩ : ByteArray) (⟨#[104, 116, 116, 112, 58, 47, 47, 104]⟩ : ByteArray) 1 false ([] : List S28) 6 600 (-1) 0 = some 2)) (A3 : Aside0 (lockkeeperlaw8_awake.f k = some true)) :
  Calls Tryz.prog 4 #[.int .i64 a0] w fun e w' => e = .returned (.bool true) ∧ Below w.heap.size w w' := by
 have hu26 := Tryz.underlying26
 have hu28 := Tryz.underlying28
 have hu34 := Tryz.underlying34
 have HB := Aside0.mk (Below.refl w.heap.size w)
 go_enter Tryz.func4, Tryz.ntmps4
 go_wp2_with (first
  | ((with_reducible refine gate_dst (N := 7) rfl ?_); refine Kd.R_lit k28 _ 28 ?hg (N := 7) ?hd (xs := ([(⟨(⟨#[]⟩ : ByteArray), (⟨#[]⟩ : ByteArray)⟩ : S28)] : List S28)) (inner := [.string (⟨#[]⟩ : ByteArray), .string (⟨#[]⟩ : ByteArray)]) (ok := fun _ => True) (okp := fun _ => True) ?hr ?hp (fun _ hk => hk) trivial (Below.refl _ _) (Nat.le_refl _) (by simp) ?_; (case hd => rfl); (case hg => rfl); (case hr => first | (go_simp; done) | (go_simp; rfl)); (case hp => exact (Reps.c2 (show Kd.M k28 _ _ _ (⟨(⟨#[]⟩ : ByteArray), (⟨#[]⟩ : ByteArray)⟩ : S28) [.string (⟨#[]⟩ : ByteArray), .string (⟨#[]⟩ : ByteArray)] from (k28_mkM _ _ _ (⟨(⟨#[]⟩ : ByteArray), (⟨#[]⟩ : ByteArray)⟩ : S28))) (Reps.none _ _))); intro v1 w1 ho hb hg_ hnew_; clear hg_ hnew_; rw [← Ny.out] at ho; have HO1 := Aside0.mk (Kd.R_lower ho (below_size bE)); replace HB := bS bE hb; clear hb ho; obtain ⟨Ao, co, eo⟩ := Kd.R_slice HO1.out; subst eo)
  | ((with_reducible refine gate_callee (f := 12) rfl ?_); refine gL (some 11) Tryz.func12 #[.int .i64 a0, .int .i64 9] ?_; (with_reducible refine (lockkeeperlaw0_Low.calls a0 9 _ _ A1.out).mono ?_); rintro e w' ⟨rfl, ⟨nd, rfl⟩⟩; refine ⟨_, rfl, ?_⟩; generalize hW : World.drewN _ nd = W; have BK1 : Aside0 (W.heap[w1.heap.size]? = some (.cells #[.string (⟨#[84, 82, 65, 67, 69]⟩ : ByteArray), .string (⟨#[120]⟩ : ByteArray), .string (⟨#[121]⟩ : ByteArray), .int .i64 9, .bool false, .slice Ao y.length co, .int .i64 7, .int .u64 601, .int .i64 (-1), .int .i64 0] 26 (0, 0))) := ⟨by rw [← hW]; exact kN (kA (blk_new _ _) _) _⟩; have BK2 : Aside0 (W.heap[w1.heap.size + 1]? = some (.cells #[.int .i64 3, .int .i64 3, .int .i64 5, .int .i64 7, .int .i64 6, .int .i64 8, .int .i64 9, .int .i64 2, .int .i64 0] 34 (0, 0))) := ⟨by rw [← hW]; refine kN ?_ _; simpa using blk_new (World.alloc w1 _) _⟩; replace HO1 : Aside0 (k28.R 28 W w.heap.size (fun _ => True) (.slice Ao y.length co) y) := ⟨by rw [← hW]; exact rK HO1.out⟩; have HB' : Aside0 (Below w.heap.size w W) := ⟨by rw [← hW]; exact bE⟩; have GE1 : Aside0 (w.heap.size ≤ w1.heap.size) := ⟨below_size HB.out⟩; replace HB := HB'; clear HB' hW; generalize w1.heap.size = g1 at BK1 BK2 GE1 ⊢; have NB : Aside0 (g1 + 1 ≠ g1) := ⟨by omega⟩; have NB' : Aside0 (g1 ≠ g1 + 1) := ⟨by omega⟩; generalize g1 + 1 = g2 at BK2 NB NB' ⊢; obtain ⟨z0, z1, z2, z3, z4, z5, z6, z7, z8, z9, y0, y1, y2, y3, y4, y5, y6, y7, y8, y9⟩ := bk10_ BK1))
 refine nameW (C := fun w_ => Code.wp _ _ _ _ w_) ?_
 intro X hX
 have BKx : Aside0 (X.heap[g1]? = some (.cells #[.string (⟨#[71, 69, 84]⟩ : ByteArray), .string (⟨#[104, 116, 116, 112, 58, 47, 47, 104, 47]⟩ : ByteArray), .string (⟨#[104, 116, 116, 112, 58, 47, 47, 104]⟩ : ByteArray), .int .i64 1, .bool false, .slice none 0 0, .int .i64 6, .int .u64 600, .int .i64 (-1), .int .i64 0] 26 (0, 0))) := ⟨by rw [hX]; exact kT⟩
 have BKy : Aside0 (X.heap[g2]? = some (.cells #[.int .i64 3, .int .i64 3, .int .i64 5, .int .i64 7, .int .i64 6, .int .i64 8, .int .i64 9, .int .i64 2, .int .i64 0] 34 (0, 0))) := ⟨by rw [hX]; exact kT⟩
 have HBx : Aside0 (Below w.heap.size w X) := ⟨by rw [hX]; exact bE⟩
 skip
 clear hX HB BK1 BK2 HO1 z0 z1 z2 z3 z4 z5 z6 z7 z8 z9 y0 y1 y2 y3 y4 y5 y6 y7 y8 y9
 have HB := HBx
 clear HBx
 refine start_ (n := 10) (S := fun w' => w'.cell? ⟨g1, 0, none⟩ = some (.string (⟨#[71, 69, 84]⟩ : ByteArray)) ∧ w'.cell? ⟨g1, 1, none⟩ = some (.string (⟨#[104, 116, 116, 112, 58, 47, 47, 104, 47]⟩ : ByteArray)) ∧ w'.cell? ⟨g1, 2, none⟩ = some (.string (⟨#[104, 116, 116, 112, 58, 47, 47, 104]⟩ : ByteArray)) ∧ w'.cell? ⟨g1, 3, none⟩ = some (.int .i64 1) ∧ w'.cell? ⟨g1, 4, none⟩ = some (.bool false) ∧ w'.cell? ⟨g1, 5, none⟩ = some (.slice none 0 0) ∧ w'.cell? ⟨g1, 6, none⟩ = some (.int .i64 6) ∧ w'.cell? ⟨g1, 7, none⟩ = some (.int .u64 600) ∧ w'.cell? ⟨g1, 8, none⟩ = some (.int .i64 (-1)) ∧ w'.cell? ⟨g1, 9, none⟩ = some (.int .i64 0) ∧ w'.cell? ⟨g2, 7, none⟩ = some (.int .i64 2)) (ds := []) (bz 10 0) (by kernel_rfl) rfl rfl (bkd10_ (t := 26) ⟨kD BKx.out⟩ ((blk_cell (kD BKy.out) 7).trans rfl)) (fun hHeld => ?_)
 replace BKx : Aside0 (X.drew.heap[g1]? = _) := ⟨kD BKx.out⟩
 replace BKy : Aside0 (X.drew.heap[g2]? = _) := ⟨kD BKy.out⟩
 replace HB : Aside0 (Below w.heap.size w X.drew) := ⟨bD HB.out⟩
 skip
 generalize X.drew = w3 at BKx BKy HB hHeld ⊢
 refine tA11 (i := 0) (N := some 36) (bz 10 1) (by kernel_rfl) hHeld ?_
 refine pA (i := 2) (N := some 38) (bz 10 5) (by kernel_rfl) ?_
 refine pA (i := 3) (N := some 39) (bz 10 13) (by kernel_rfl) ?_
 refine tA11 (i := 4) (N := some 40) (bz 10 29) (by kernel_rfl) hHeld ?_
 refine one_ (i := 1) (N := some 37) (bz 10 31) rfl rfl (by kernel_rfl) (by decide) (fun K hK => ?_)
 refine gS Tryz.func13 #[.agg #[.string (⟨#[71, 69, 84]⟩ : ByteArray), .string (⟨#[104, 116, 116, 112, 58, 47, 47, 104, 47]⟩ : ByteArray), .string (⟨#[104, 116, 116, 112, 58, 47, 47, 104]⟩ : ByteArray), .int .i64 1, .bool false, .slice none 0 0, .int .i64 6, .int .u64 600, .int .i64 (-1), .int .i64 0]] ?_
 refine (ask_Check.calls k (⟨#[71, 69, 84]⟩ : ByteArray) (⟨#[104, 116, 116, 112, 58, 47, 47, 104, 47]⟩ : ByteArray) (⟨#[104, 116, 116, 112, 58, 47, 47, 104]⟩ : ByteArray) 1 false _ _ ([] : List S28) 6 600 (-1) 0 _ _ ?side1 ?side2 ?side3 A2.out).mono ?_
 (case side1 => exact Kd.C_nil _ _); (case side2 => exact Nat.le_refl _)
 (case side3 => exact ⟨lE⟩)
 rintro e w4 ⟨rfl, hb⟩
 refine ⟨_, rfl, ?_⟩
 replace BKx := kM BKx hb
 replace BKy := kM BKy hb
 replace HB := bS bE hb
 clear hb
 refine hK.out _ _ (bkd10_ BKx ((blk_cell BKy.out 7).trans rfl)) (fun hHeld => ?_)
 clear hK K
 refine nA 37 ?_
 refine pA (i := 5) (N := some 41) (bz 10 63) (by kernel_rfl) ?_
 refine pA (i := 6) (N := some 42) (bz 10 127) (by kernel_rfl) ?_
 refine one_ (i := 7) (N := some 43) (bz 10 255) rfl rfl (by kernel_rfl) (by decide) (fun K hK => ?_)
 refine gS Tryz.func15 #[] ?_
 refine (lockkeeperlaw8_awake.calls k true _ ?side4 A3.out).mono ?_
 (case side4 => exact ⟨lE⟩)
 rintro e w5 ⟨rfl, hb⟩
 refine ⟨_, rfl, ?_⟩
 replace BKx := kM BKx hb
 replace BKy := kM BKy hb
 replace HB := bS bE hb
 clear hb
 refine hK.out _ _ (bkd10_ BKx ((blk_cell BKy.out 7).trans rfl)) (fun hHeld => ?_)
 clear hK K
 refine nA 43 ?_
 refine pA (i := 8) (N := some 44) (bz 10 511) (by kernel_rfl) ?_
 refine pA (i := 9) (N := some 2) (bz 10 1023) (by kernel_rfl) ?_
 refine done_ (by kernel_rfl) ?_
 try go_wp2
 go_ret
 exact ⟨rE, bE⟩
set_option maxHeartbeats 8000000 in
set_option maxRecDepth 100000 in
theorem ao8 (k : Nat) (a0 : Int) (y : List S28) (w : World) (hM_ : Aside0 (LaidW w)) (Ny : Aside0 (y = [(⟨(⟨#[]⟩ : ByteArray), (⟨#[]⟩ : ByteArray)⟩ : S28)])) (A1 : Aside0 (lockkeeperlaw0_Low.f a0 9 = some 8)) (A2 : Aside0 (ask_Check.f k (⟨#[71, 69, 84]⟩ : ByteArray) (⟨#[104, 116, 116, 112, 58, 47, 47, 104, 47]⟩ : ByteArray) (⟨#[104, 116, 116, 112, 58, 47, 47, 104]⟩ : ByteArray) 1 false ([] : List S28) 6 600 0 0 = some 0)) (A3 : Aside0 (lockkeeperlaw8_awake.f k = some true)) :
  Calls Tryz.prog 4 #[.int .i64 a0] w fun e w' => e = .returned (.bool true) ∧ Below w.heap.size w w' := by
 have hu26 := Tryz.underlying26
 have hu28 := Tryz.underlying28
 have hu34 := Tryz.underlying34
 have HB := Aside0.mk (Below.refl w.heap.size w)
 go_enter Tryz.func4, Tryz.ntmps4
 go_wp2_with (first
  | ((with_reducible refine gate_dst (N := 7) rfl ?_); refine Kd.R_lit k28 _ 28 ?hg (N := 7) ?hd (xs := ([(⟨(⟨#[]⟩ : ByteArray), (⟨#[]⟩ : ByteArray)⟩ : S28)] : List S28)) (inner := [.string (⟨#[]⟩ : ByteArray), .string (⟨#[]⟩ : ByteArray)]) (ok := fun _ => True) (okp := fun _ => True) ?hr ?hp (fun _ hk => hk) trivial (Below.refl _ _) (Nat.le_refl _) (by simp) ?_; (case hd => rfl); (case hg => rfl); (case hr => first | (go_simp; done) | (go_simp; rfl)); (case hp => exact (Reps.c2 (show Kd.M k28 _ _ _ (⟨(⟨#[]⟩ : ByteArray), (⟨#[]⟩ : ByteArray)⟩ : S28) [.string (⟨#[]⟩ : ByteArray), .string (⟨#[]⟩ : ByteArray)] from (k28_mkM _ _ _ (⟨(⟨#[]⟩ : ByteArray), (⟨#[]⟩ : ByteArray)⟩ : S28))) (Reps.none _ _))); intro v1 w1 ho hb hg_ hnew_; clear hg_ hnew_; rw [← Ny.out] at ho; have HO1 := Aside0.mk (Kd.R_lower ho (below_size bE)); replace HB := bS bE hb; clear hb ho; obtain ⟨Ao, co, eo⟩ := Kd.R_slice HO1.out; subst eo)
  | ((with_reducible refine gate_callee (f := 12) rfl ?_); refine gL (some 11) Tryz.func12 #[.int .i64 a0, .int .i64 9] ?_; (with_reducible refine (lockkeeperlaw0_Low.calls a0 9 _ _ A1.out).mono ?_); rintro e w' ⟨rfl, ⟨nd, rfl⟩⟩; refine ⟨_, rfl, ?_⟩; generalize hW : World.drewN _ nd = W; have BK1 : Aside0 (W.heap[w1.heap.size]? = some (.cells #[.string (⟨#[84, 82, 65, 67, 69]⟩ : ByteArray), .string (⟨#[120]⟩ : ByteArray), .string (⟨#[121]⟩ : ByteArray), .int .i64 9, .bool false, .slice Ao y.length co, .int .i64 7, .int .u64 601, .int .i64 (-1), .int .i64 0] 26 (0, 0))) := ⟨by rw [← hW]; exact kN (kA (blk_new _ _) _) _⟩; have BK2 : Aside0 (W.heap[w1.heap.size + 1]? = some (.cells #[.int .i64 3, .int .i64 3, .int .i64 5, .int .i64 7, .int .i64 6, .int .i64 8, .int .i64 9, .int .i64 2, .int .i64 0] 34 (0, 0))) := ⟨by rw [← hW]; refine kN ?_ _; simpa using blk_new (World.alloc w1 _) _⟩; replace HO1 : Aside0 (k28.R 28 W w.heap.size (fun _ => True) (.slice Ao y.length co) y) := ⟨by rw [← hW]; exact rK HO1.out⟩; have HB' : Aside0 (Below w.heap.size w W) := ⟨by rw [← hW]; exact bE⟩; have GE1 : Aside0 (w.heap.size ≤ w1.heap.size) := ⟨below_size HB.out⟩; replace HB := HB'; clear HB' hW; generalize w1.heap.size = g1 at BK1 BK2 GE1 ⊢; have NB : Aside0 (g1 + 1 ≠ g1) := ⟨by omega⟩; have NB' : Aside0 (g1 ≠ g1 + 1) := ⟨by omega⟩; generalize g1 + 1 = g2 at BK2 NB NB' ⊢; obtain ⟨z0, z1, z2, z3, z4, z5, z6, z7, z8, z9, y0, y1, y2, y3, y4, y5, y6, y7, y8, y9⟩ := bk10_ BK1))
 refine nameW (C := fun w_ => Code.wp _ _ _ _ w_) ?_
 intro X hX
 have BKx : Aside0 (X.heap[g1]? = some (.cells #[.string (⟨#[71, 69, 84]⟩ : ByteArray), .string (⟨#[104, 116, 116, 112, 58, 47, 47, 104, 47]⟩ : ByteArray), .string (⟨#[104, 116, 116, 112, 58, 47, 47, 104]⟩ : ByteArray), .int .i64 1, .bool false, .slice none 0 0, .int .i64 6, .int .u64 600, .int .i64 0, .int .i64 0] 26 (0, 0))) := ⟨by rw [hX]; exact kT⟩
 have BKy : Aside0 (X.heap[g2]? = some (.cells #[.int .i64 3, .int .i64 3, .int .i64 5, .int .i64 7, .int .i64 6, .int .i64 8, .int .i64 9, .int .i64 2, .int .i64 0] 34 (0, 0))) := ⟨by rw [hX]; exact kT⟩
 have HBx : Aside0 (Below w.heap.size w X) := ⟨by rw [hX]; exact bE⟩
 skip
 clear hX HB BK1 BK2 HO1 z0 z1 z2 z3 z4 z5 z6 z7 z8 z9 y0 y1 y2 y3 y4 y5 y6 y7 y8 y9
 have HB := HBx
 clear HBx
 refine start_ (n := 10) (S := fun w' => w'.cell? ⟨g1, 0, none⟩ = some (.string (⟨#[71, 69, 84]⟩ : ByteArray)) ∧ w'.cell? ⟨g1, 1, none⟩ = some (.string (⟨#[104, 116, 116, 112, 58, 47, 47, 104, 47]⟩ : ByteArray)) ∧ w'.cell? ⟨g1, 2, none⟩ = some (.string (⟨#[104, 116, 116, 112, 58, 47, 47, 104]⟩ : ByteArray)) ∧ w'.cell? ⟨g1, 3, none⟩ = some (.int .i64 1) ∧ w'.cell? ⟨g1, 4, none⟩ = some (.bool false) ∧ w'.cell? ⟨g1, 5, none⟩ = some (.slice none 0 0) ∧ w'.cell? ⟨g1, 6, none⟩ = some (.int .i64 6) ∧ w'.cell? ⟨g1, 7, none⟩ = some (.int .u64 600) ∧ w'.cell? ⟨g1, 8, none⟩ = some (.int .i64 0) ∧ w'.cell? ⟨g1, 9, none⟩ = some (.int .i64 0) ∧ w'.cell? ⟨g2, 8, none⟩ = some (.int .i64 0)) (ds := []) (bz 10 0) (by kernel_rfl) rfl rfl (bkd10_ (t := 26) ⟨kD BKx.out⟩ ((blk_cell (kD BKy.out) 8).trans rfl)) (fun hHeld => ?_)
 replace BKx : Aside0 (X.drew.heap[g1]? = _) := ⟨kD BKx.out⟩
 replace BKy : Aside0 (X.drew.heap[g2]? = _) := ⟨kD BKy.out⟩
 replace HB : Aside0 (Below w.heap.size w X.drew) := ⟨bD HB.out⟩
 skip
 generalize X.drew = w3 at BKx BKy HB hHeld ⊢
 refine tA11 (i := 0) (N := some 36) (bz 10 1) (by kernel_rfl) hHeld ?_
 refine pA (i := 2) (N := some 38) (bz 10 5) (by kernel_rfl) ?_
 refine pA (i := 3) (N := some 39) (bz 10 13) (by kernel_rfl) ?_
 refine tA11 (i := 4) (N := some 40) (bz 10 29) (by kernel_rfl) hHeld ?_
 refine one_ (i := 1) (N := some 37) (bz 10 31) rfl rfl (by kernel_rfl) (by decide) (fun K hK => ?_)
 refine gS Tryz.func13 #[.agg #[.string (⟨#[71, 69, 84]⟩ : ByteArray), .string (⟨#[104, 116, 116, 112, 58, 47, 47, 104, 47]⟩ : ByteArray), .string (⟨#[104, 116, 116, 112, 58, 47, 47, 104]⟩ : ByteArray), .int .i64 1, .bool false, .slice none 0 0, .int .i64 6, .int .u64 600, .int .i64 0, .int .i64 0]] ?_
 refine (ask_Check.calls k (⟨#[71, 69, 84]⟩ : ByteArray) (⟨#[104, 116, 116, 112, 58, 47, 47, 104, 47]⟩ : ByteArray) (⟨#[104, 116, 116, 112, 58, 47, 47, 104]⟩ : ByteArray) 1 false _ _ ([] : List S28) 6 600 0 0 _ _ ?side1 ?side2 ?side3 A2.out).mono ?_
 (case side1 => exact Kd.C_nil _ _); (case side2 => exact Nat.le_refl _)
 (case side3 => exact ⟨lE⟩)
 rintro e w4 ⟨rfl, hb⟩
 refine ⟨_, rfl, ?_⟩
 replace BKx := kM BKx hb
 replace BKy := kM BKy hb
 replace HB := bS bE hb
 clear hb
 refine hK.out _ _ (bkd10_ BKx ((blk_cell BKy.out 8).trans rfl)) (fun hHeld => ?_)
 clear hK K
 refine nA 37 ?_
 refine pA (i := 5) (N := some 41) (bz 10 63) (by kernel_rfl) ?_
 refine pA (i := 6) (N := some 42) (bz 10 127) (by kernel_rfl) ?_
 refine one_ (i := 7) (N := some 43) (bz 10 255) rfl rfl (by kernel_rfl) (by decide) (fun K hK => ?_)
 refine gS Tryz.func15 #[] ?_
 refine (lockkeeperlaw8_awake.calls k true _ ?side4 A3.out).mono ?_
 (case side4 => exact ⟨lE⟩)
 rintro e w5 ⟨rfl, hb⟩
 refine ⟨_, rfl, ?_⟩
 replace BKx := kM BKx hb
 replace BKy := kM BKy hb
 replace HB := bS bE hb
 clear hb
 refine hK.out _ _ (bkd10_ BKx ((blk_cell BKy.out 8).trans rfl)) (fun hHeld => ?_)
 clear hK K
 refine nA 43 ?_
 refine pA (i := 8) (N := some 44) (bz 10 511) (by kernel_rfl) ?_
 refine pA (i := 9) (N := some 2) (bz 10 1023) (by kernel_rfl) ?_
 refine done_ (by kernel_rfl) ?_
 try go_wp2
 go_ret
 exact ⟨rE, bE⟩
def wantO (n : Int) : Int := if n = 0 then 3 else if n = 1 then 3 else if n = 2 then 5 else if n = 3 then 7 else if n = 4 then 6 else if n = 5 then 8 else if n = 6 then 9 else if n = 7 then 2 else 0
def lockkeeperlaw8_AskOrder.f (k : Nat) (a0 : Int) : Option (Bool) := (lockkeeperlaw0_Low.f a0 9).bind fun n => (ask_Check.f k (if n > 2 then (⟨#[71, 69, 84]⟩ : ByteArray) else (⟨#[84, 82, 65, 67, 69]⟩ : ByteArray)) (if n > 0 then (⟨#[104, 116, 116, 112, 58, 47, 47, 104, 47]⟩ : ByteArray) else (⟨#[120]⟩ : ByteArray)) (if n > 1 then (⟨#[104, 116, 116, 112, 58, 47, 47, 104]⟩ : ByteArray) else (⟨#[121]⟩ : ByteArray)) (if n > 3 then 1 else 9) false (if n > 4 then ([] : List S28) else [(⟨(⟨#[]⟩ : ByteArray), (⟨#[]⟩ : ByteArray)⟩ : S28)]) (if n > 5 then 6 else 7) (if n > 6 then 600 else 601) (if n > 7 then 0 else (-1)) 0).bind fun e => if e = wantO n then lockkeeperlaw8_awake.f k else some false
theorem low9 {x n : Int} (h : lockkeeperlaw0_Low.f x 9 = some n) : n = 0 ∨ n = 1 ∨ n = 2 ∨ n = 3 ∨ n = 4 ∨ n = 5 ∨ n = 6 ∨ n = 7 ∨ n = 8 := by
  unfold lockkeeperlaw0_Low.f at h
  have e : IntKind.u64.wrap 9 = 9 := by decide
  rw [e, if_neg (by decide)] at h
  have h1 : 0 ≤ IntKind.u64.wrap x := by rw [IntKind.wrap_u64]; omega
  generalize IntKind.u64.wrap x = y at h h1
  rw [Int.tmod_eq_emod_of_nonneg h1] at h
  have h2 : wrap64 (y % 9) = y % 9 := by unfold wrap64; omega
  rw [h2] at h
  have h3 := Option.some.inj h
  omega
theorem lockkeeperlaw8_AskOrder.calls (k : Nat) (a0 : Int) (r : Bool) (w : World) (hM_ : Aside0 (LaidW w)) (hr_ : r = true) (h : lockkeeperlaw8_AskOrder.f k a0 = some r) :
    Calls Tryz.prog 4 #[.int .i64 a0] w fun e w' => e = .returned (.bool r) ∧ Below w.heap.size w w' := by
  subst hr_
  unfold lockkeeperlaw8_AskOrder.f at h
  obtain ⟨n, A1, h⟩ := bd_ h
  obtain ⟨e, A2, h⟩ := bd_ h
  have he : e = wantO n := by
    by_cases he : e = wantO n
    · exact he
    · rw [if_neg he] at h
      cases h
  rw [if_pos he] at h
  subst he
  have A3 := Aside0.mk h
  clear h
  have hn := low9 A1.out
  rcases hn with rfl | rfl | rfl | rfl | rfl | rfl | rfl | rfl | rfl
  · exact ao0 k a0 [(⟨(⟨#[]⟩ : ByteArray), (⟨#[]⟩ : ByteArray)⟩ : S28)] w hM_ ⟨rfl⟩ A1 ⟨A2.out⟩ A3
  · exact ao1 k a0 [(⟨(⟨#[]⟩ : ByteArray), (⟨#[]⟩ : ByteArray)⟩ : S28)] w hM_ ⟨rfl⟩ A1 ⟨A2.out⟩ A3
  · exact ao2 k a0 [(⟨(⟨#[]⟩ : ByteArray), (⟨#[]⟩ : ByteArray)⟩ : S28)] w hM_ ⟨rfl⟩ A1 ⟨A2.out⟩ A3
  · exact ao3 k a0 [(⟨(⟨#[]⟩ : ByteArray), (⟨#[]⟩ : ByteArray)⟩ : S28)] w hM_ ⟨rfl⟩ A1 ⟨A2.out⟩ A3
  · exact ao4 k a0 [(⟨(⟨#[]⟩ : ByteArray), (⟨#[]⟩ : ByteArray)⟩ : S28)] w hM_ ⟨rfl⟩ A1 ⟨A2.out⟩ A3
  · exact ao5 k a0 [(⟨(⟨#[]⟩ : ByteArray), (⟨#[]⟩ : ByteArray)⟩ : S28)] w hM_ ⟨rfl⟩ A1 ⟨A2.out⟩ A3
  · exact ao6 k a0 [(⟨(⟨#[]⟩ : ByteArray), (⟨#[]⟩ : ByteArray)⟩ : S28)] w hM_ ⟨rfl⟩ A1 ⟨A2.out⟩ A3
  · exact ao7 k a0 [(⟨(⟨#[]⟩ : ByteArray), (⟨#[]⟩ : ByteArray)⟩ : S28)] w hM_ ⟨rfl⟩ A1 ⟨A2.out⟩ A3
  · exact ao8 k a0 [(⟨(⟨#[]⟩ : ByteArray), (⟨#[]⟩ : ByteArray)⟩ : S28)] w hM_ ⟨rfl⟩ A1 ⟨A2.out⟩ A3
end Go.Proofs.YtfmajangcbgooaaGreatDoor.Pr
