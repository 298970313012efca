import Derived.Test.YtfmajangcbgooaaGreatDoorPr0
import Derived.Test.YtfmajangcbgooaaGreatDoorK0
import Derived.Test.YtfmajangcbgooaaGreatDoorPr3
import Derived.Test.YtfmajangcbgooaaGreatDoorPr14
import Derived.Test.YtfmajangcbgooaaGreatDoorG2
import Derived.Test.YtfmajangcbgooaaGreatDoorG4
import Derived.Test.YtfmajangcbgooaaGreatDoorG5
namespace Go.Proofs.YtfmajangcbgooaaGreatDoor.Pr
open Go.RowKit Go.Proofs.YtfmajangcbgooaaGreatDoorW.PrintWords Go.Proofs.YtfmajangcbgooaaGreatDoorW.PrintLast Go.Proofs.YtfmajangcbgooaaGreatDoorW.PrintMore
attribute [local go_sem] max2_int min2_int max_two min_two max_three min_three max_four min_four
set_option linter.unusedVariables false
set_option maxHeartbeats 64000000
set_option maxRecDepth 100000
set_option linter.unusedSimpArgs false
def ask_Want.f (k : Nat) (b c d : ByteArray) (e : Int) (g : Bool) (i : List (S28)) (j l m n : Int) : Option (ByteArray × ByteArray × Bool × ByteArray × ByteArray) := (ask_Norm.f k b c d e g i j l m n).bind fun o => ((ask_Cell.f k b c d e g i j l m n).bind fun a => ((ask_Names.f k b c d e g i j l m n).bind fun p => ((strings_Join.f p (⟨#[44]⟩ : ByteArray)).bind fun q => (some (a.1, a.2.1, a.2.2, o.1, q)))))
theorem ask_Want.mono : ∀ a b c d e g i j l m k, LeO (ask_Want.f k a b c d e g i j l m) (ask_Want.f (k + 1) a b c d e g i j l m) := by
 intro a b c d e g i j l m k
 have n := @ask_Cell.mono; have o := @ask_Names.mono; have p := @ask_Norm.mono; unfold ask_Want.f
 exact moE
def ask_Want.T2 : Bool × List (List Nat × List Nat) := (true, [([], []), ([0], [0]), ([], []), ([2], [2]), ([], []), ([4, 1], [4]), ([5, 5], [5]), ([1, 3, 6], [1, 3, 6]), ([7, 6, 0, 1, 2, 3, 4, 5, 6, 7], [7])])
def ask_Want.B2 : List Nat := [0, 1, 0, 4, 0, 19, 51, 127, 255]
theorem ask_Want.tab2 : rtab .any (opsOf Tryz.f31 2) = ask_Want.T2 := by kernel_rfl
theorem ask_Want.bits2 : waitsOk ask_Want.T2.2 ask_Want.B2 = true := by kernel_rfl
theorem ask_Want.calls (k : Nat) (v x y : ByteArray) (z : Int) (A : Bool) (L : Option Addr) (M : Nat) (q : List (S28)) (B D E G : Int) (r1 r2 : ByteArray) (r3 : Bool) (r4 r5 : ByteArray) (w : World) (hr0_5 : Kd.C k28 w L q.length q) (hc0_5 : q.length ≤ M) (hM_ : Aside0 (LaidW w)) (h : ask_Want.f k v x y z A q B D E G = some (r1, r2, r3, r4, r5)) :
  Calls Tryz.prog 31 #[.agg #[.string v, .string x, .string y, .int .i64 z, .bool A, .slice L q.length M, .int .i64 B, .int .u64 D, .int .i64 E, .int .i64 G]] w fun e w' => e = .returned (.agg #[.string r1, .string r2, .bool r3, .string r4, .string r5]) ∧ Below w.heap.size w w' := by
 have hu26 := Tryz.underlying26; have hu46 := Tryz.underlying46; have HR1_5 := Aside0.mk hr0_5; have a1 := Aside0.mk hc0_5; clear hr0_5 hc0_5; have HB := Aside0.mk (Below.refl w.heap.size w); have H := h; clear h; unfold ask_Want.f at H; replace H := bd_ H; obtain ⟨⟨t1, t5, t6, t7, t8, t9, W, X, Y, Z⟩, A2, H⟩ := H; replace H : ((ask_Cell.f k v x y z A q B D E G).bind fun bt2 => ((ask_Names.f k v x y z A q B D E G).bind fun t3 => ((strings_Join.f t3 (⟨#[44]⟩ : ByteArray)).bind fun t4 => (some (bt2.1, bt2.2.1, bt2.2.2, t1, t4))))) = some (r1, r2, r3, r4, r5) := H; replace H := bd_ H; obtain ⟨⟨t2, t14, t15⟩, A3, H⟩ := H; replace H : ((ask_Names.f k v x y z A q B D E G).bind fun t3 => ((strings_Join.f t3 (⟨#[44]⟩ : ByteArray)).bind fun t4 => (some (t2, t14, t15, t1, t4)))) = some (r1, r2, r3, r4, r5) := H; replace H := bd_ H; obtain ⟨t3, A4, H⟩ := H; replace H := bd_ H; obtain ⟨t4, A5, H⟩ := H
 simp only [Option.some.injEq, Prod.mk.injEq] at H
 obtain ⟨rfl, rfl, rfl, rfl, rfl⟩ := H; go_enter Tryz.func31, Tryz.ntmps31
 try go_wp2_with (first | ((with_reducible refine gate_dst (N := 1) rfl ?_); refine bxE (N := 1) (cs := #[.string v, .string x, .string y, .int .i64 z, .bool A, .slice L q.length M, .int .i64 B, .int .u64 D, .int .i64 E, .int .i64 G]) (t := 26) fun r hg w1a2 hbox hb => ?_; obtain ⟨HB', c, GW1a1⟩ := bx_ bE hg hbox hb; have GE1a1 := GW1a1; clear HB hb hbox hg; have HB := HB'; clear HB') | ((with_reducible refine gate_dst (N := 2) rfl ?_); refine bxE (N := 2) (cs := #[.string ⟨#[]⟩, .string ⟨#[]⟩, .bool false, .string ⟨#[]⟩, .string ⟨#[]⟩]) (t := 46) fun I hg w2a2 hbox hb => ?_; have b := Aside0.mk (hbox); have GW2a1 := sE (w := w) hg; have GE2a1 := sE (w := w) hg; have j := neL c hg; have l := neG c hg; replace c := kM c hb; replace HB := bS bE hb; clear hb hbox hg; have hnb2a3 := j.out; have hnc2a3 := l.out; obtain ⟨z2a4_0, z2a4_1, z2a4_2, z2a4_3, z2a4_4, z2a4_5, z2a4_6, z2a4_7, z2a4_8, z2a4_9, zf2a4_0, zf2a4_1, zf2a4_2, zf2a4_3, zf2a4_4, zf2a4_5, zf2a4_6, zf2a4_7, zf2a4_8, zf2a4_9⟩ := bk10_ c) | ((with_reducible refine gate_callee (f := 20) rfl ?_); refine gL _ Tryz.func20 _ ((ask_Norm.calls k v x y z A _ _ q B D E G t1 t5 t6 t7 t8 t9 W X Y Z _ ?side1 ?side2 ?side3 A2.out).mono ?_); (case side1 => exact cE); (case side2 => exact a1.out); (case side3 => exact ⟨lE⟩); rintro e w3a1 ⟨v3a2, rfl, O, hb⟩; refine ⟨_, rfl, ?_⟩; have n0_ := Aside0.mk (Kd.R_lower O (below_size bE)); have n1_ := kM c hb; have n2_ := kM b hb; have n3_ := bS bE hb; clear c; clear b; clear HB; have g := n0_; have c := n1_; have b := n2_; have HB := n3_; clear n0_ n1_ n2_ n3_; (try clear hb); (try clear hb2); (try clear hk); (try clear hi); (try clear O)) | ((with_reducible refine gate_dst (N := 3) rfl ?_); refine bxE (N := 3) (cs := #[.string ⟨#[]⟩, .string ⟨#[]⟩, .string ⟨#[]⟩, .int .i64 0, .bool false, .slice none 0 0, .int .i64 0, .int .u64 0, .int .i64 0, .int .i64 0]) (t := 26) fun a hg a0 hbox hb => ?_; have d := Aside0.mk (hbox); have GW4a1 := sE (w := w) hg; have GE4a1 := sE (w := w) hg; have a2 := neL c hg; have a3 := neG c hg; have m := neL b hg; have o := neG b hg; replace g := rM g hb; replace c := kM c hb; replace b := kM b hb; replace HB := bS bE hb; clear hb hbox hg; have hnb4a3 := a3.out; have hnc4a3 := a2.out; have hnb4a4 := o.out; have hnc4a4 := m.out; obtain ⟨z4a5_0, z4a5_1, z4a5_2, z4a5_3, z4a5_4, z4a5_5, z4a5_6, z4a5_7, z4a5_8, z4a5_9, zf4a5_0, zf4a5_1, zf4a5_2, zf4a5_3, zf4a5_4, zf4a5_5, zf4a5_6, zf4a5_7, zf4a5_8, zf4a5_9⟩ := bk10_ d; obtain ⟨s, u, eo4a6⟩ := Kd.R_slice g.out; subst eo4a6))
 have n0_ : Aside0 (Kd.R k28 28 ((((((((((a0.setCell ⟨a, 0, none⟩ (.string t1)).setCell ⟨a, 1, none⟩ (.string t5)).setCell ⟨a, 2, none⟩ (.string t6)).setCell ⟨a, 3, none⟩ (.int .i64 t7)).setCell ⟨a, 4, none⟩ (.bool t8)).setCell ⟨a, 5, none⟩ (.slice s t9.length u)).setCell ⟨a, 6, none⟩ (.int .i64 W)).setCell ⟨a, 7, none⟩ (.int .u64 X)).setCell ⟨a, 8, none⟩ (.int .i64 Y)).setCell ⟨a, 9, none⟩ (.int .i64 Z)) w.heap.size (fun _ => True) (.slice s t9.length u) t9) := ⟨by (with_reducible repeat (first | apply Kd.R_alloc | apply Kd.R_drewN | apply Kd.R_drew)); exact Kd.R_mono (Kd.R_far (p := ⟨a, 9, none⟩) (Kd.R_far (p := ⟨a, 8, none⟩) (Kd.R_far (p := ⟨a, 7, none⟩) (Kd.R_far (p := ⟨a, 6, none⟩) (Kd.R_far (p := ⟨a, 5, none⟩) (Kd.R_far (p := ⟨a, 4, none⟩) (Kd.R_far (p := ⟨a, 3, none⟩) (Kd.R_far (p := ⟨a, 2, none⟩) (Kd.R_far (p := ⟨a, 1, none⟩) (Kd.R_far (p := ⟨a, 0, none⟩) (Kd.R_types g.out d.out (by decide)) (fun _ hk => hk.2) (.string t1)) (fun _ hk => hk.2) (.string t5)) (fun _ hk => hk.2) (.string t6)) (fun _ hk => hk.2) (.int .i64 t7)) (fun _ hk => hk.2) (.bool t8)) (fun _ hk => hk.2) (.slice s t9.length u)) (fun _ hk => hk.2) (.int .i64 W)) (fun _ hk => hk.2) (.int .u64 X)) (fun _ hk => hk.2) (.int .i64 Y)) (fun _ hk => hk.2) (.int .i64 Z)) (fun _ hk => trivial)⟩; have n1_ : Aside0 (((((((((((a0.setCell ⟨a, 0, none⟩ (.string t1)).setCell ⟨a, 1, none⟩ (.string t5)).setCell ⟨a, 2, none⟩ (.string t6)).setCell ⟨a, 3, none⟩ (.int .i64 t7)).setCell ⟨a, 4, none⟩ (.bool t8)).setCell ⟨a, 5, none⟩ (.slice s t9.length u)).setCell ⟨a, 6, none⟩ (.int .i64 W)).setCell ⟨a, 7, none⟩ (.int .u64 X)).setCell ⟨a, 8, none⟩ (.int .i64 Y)).setCell ⟨a, 9, none⟩ (.int .i64 Z)).heap[r]? = some (.cells #[.string v, .string x, .string y, .int .i64 z, .bool A, .slice L q.length M, .int .i64 B, .int .u64 D, .int .i64 E, .int .i64 G] 26 (0, 0))) := ⟨kT⟩; have n2_ : Aside0 (((((((((((a0.setCell ⟨a, 0, none⟩ (.string t1)).setCell ⟨a, 1, none⟩ (.string t5)).setCell ⟨a, 2, none⟩ (.string t6)).setCell ⟨a, 3, none⟩ (.int .i64 t7)).setCell ⟨a, 4, none⟩ (.bool t8)).setCell ⟨a, 5, none⟩ (.slice s t9.length u)).setCell ⟨a, 6, none⟩ (.int .i64 W)).setCell ⟨a, 7, none⟩ (.int .u64 X)).setCell ⟨a, 8, none⟩ (.int .i64 Y)).setCell ⟨a, 9, none⟩ (.int .i64 Z)).heap[I]? = some (.cells #[.string ⟨#[]⟩, .string ⟨#[]⟩, .bool false, .string ⟨#[]⟩, .string ⟨#[]⟩] 46 (0, 0))) := ⟨kT⟩; have n3_ : Aside0 (((((((((((a0.setCell ⟨a, 0, none⟩ (.string t1)).setCell ⟨a, 1, none⟩ (.string t5)).setCell ⟨a, 2, none⟩ (.string t6)).setCell ⟨a, 3, none⟩ (.int .i64 t7)).setCell ⟨a, 4, none⟩ (.bool t8)).setCell ⟨a, 5, none⟩ (.slice s t9.length u)).setCell ⟨a, 6, none⟩ (.int .i64 W)).setCell ⟨a, 7, none⟩ (.int .u64 X)).setCell ⟨a, 8, none⟩ (.int .i64 Y)).setCell ⟨a, 9, none⟩ (.int .i64 Z)).heap[a]? = some (.cells #[.string t1, .string t5, .string t6, .int .i64 t7, .bool t8, .slice s t9.length u, .int .i64 W, .int .u64 X, .int .i64 Y, .int .i64 Z] 26 (0, 0))) := ⟨kT⟩; have n4_ : Aside0 (Below w.heap.size w ((((((((((a0.setCell ⟨a, 0, none⟩ (.string t1)).setCell ⟨a, 1, none⟩ (.string t5)).setCell ⟨a, 2, none⟩ (.string t6)).setCell ⟨a, 3, none⟩ (.int .i64 t7)).setCell ⟨a, 4, none⟩ (.bool t8)).setCell ⟨a, 5, none⟩ (.slice s t9.length u)).setCell ⟨a, 6, none⟩ (.int .i64 W)).setCell ⟨a, 7, none⟩ (.int .u64 X)).setCell ⟨a, 8, none⟩ (.int .i64 Y)).setCell ⟨a, 9, none⟩ (.int .i64 Z))) := ⟨bE⟩; (try clear g); (try clear c); (try clear b); (try clear d); (try clear HB); generalize ((((((((((a0.setCell ⟨a, 0, none⟩ (.string t1)).setCell ⟨a, 1, none⟩ (.string t5)).setCell ⟨a, 2, none⟩ (.string t6)).setCell ⟨a, 3, none⟩ (.int .i64 t7)).setCell ⟨a, 4, none⟩ (.bool t8)).setCell ⟨a, 5, none⟩ (.slice s t9.length u)).setCell ⟨a, 6, none⟩ (.int .i64 W)).setCell ⟨a, 7, none⟩ (.int .u64 X)).setCell ⟨a, 8, none⟩ (.int .i64 Y)).setCell ⟨a, 9, none⟩ (.int .i64 Z)) = w13s1 at n0_ n1_ n2_ n3_ n4_ ⊢; have g := n0_; have c := n1_; have b := n2_; have d := n3_; have HB := n4_; clear n0_ n1_ n2_ n3_ n4_; have n0_ := Aside0.mk (Kd.R_drew g.out); have n1_ := Aside0.mk (blk_drew c.out); have n2_ := Aside0.mk (blk_drew b.out); have n3_ := Aside0.mk (blk_drew d.out); have n4_ := Aside0.mk (below_drew1 HB.out); clear g; clear c; clear b; clear d; clear HB; have g := n0_; have c := n1_; have b := n2_; have d := n3_; have HB := n4_; clear n0_ n1_ n2_ n3_ n4_; refine start_ (n := 9) (S := fun w' => w'.cell? ⟨r, 0, none⟩ = some (.string v) ∧ w'.cell? ⟨r, 1, none⟩ = some (.string x) ∧ w'.cell? ⟨r, 2, none⟩ = some (.string y) ∧ w'.cell? ⟨r, 3, none⟩ = some (.int .i64 z) ∧ w'.cell? ⟨r, 4, none⟩ = some (.bool A) ∧ w'.cell? ⟨r, 5, none⟩ = some (.slice L q.length M) ∧ w'.cell? ⟨r, 6, none⟩ = some (.int .i64 B) ∧ w'.cell? ⟨r, 7, none⟩ = some (.int .u64 D) ∧ w'.cell? ⟨r, 8, none⟩ = some (.int .i64 E) ∧ w'.cell? ⟨r, 9, none⟩ = some (.int .i64 G) ∧ w'.cell? ⟨a, 0, none⟩ = some (.string t1) ∧ w'.cell? ⟨a, 1, none⟩ = some (.string t5) ∧ w'.cell? ⟨a, 2, none⟩ = some (.string t6) ∧ w'.cell? ⟨a, 3, none⟩ = some (.int .i64 t7) ∧ w'.cell? ⟨a, 4, none⟩ = some (.bool t8) ∧ w'.cell? ⟨a, 5, none⟩ = some (.slice s t9.length u) ∧ w'.cell? ⟨a, 6, none⟩ = some (.int .i64 W) ∧ w'.cell? ⟨a, 7, none⟩ = some (.int .u64 X) ∧ w'.cell? ⟨a, 8, none⟩ = some (.int .i64 Y) ∧ w'.cell? ⟨a, 9, none⟩ = some (.int .i64 Z)) (ds := []) (bz 9 0) (by kernel_rfl) rfl rfl (bkd10_ c (bkc10_ d)) (fun hHeld => ?_); refine with_tabW ask_Want.tab2 ask_Want.bits2 (fun HT_ HW_ => ?_); generalize w13s1.drew = w37s1 at g c b d HB hHeld ⊢; refine qA 2 8 9 4 ?_; refine tA20 0 6 9 5 ?_; refine tA20 3 9 9 13 ?_; refine tA20 4 10 9 29 ?_; refine oB 1 7 9 31 fun K hK => ?_; refine gS Tryz.func29 #[.agg #[.string v, .string x, .string y, .int .i64 z, .bool A, .slice L q.length M, .int .i64 B, .int .u64 D, .int .i64 E, .int .i64 G]] ?_
 with_reducible refine (ask_Cell.calls k v x y z A _ _ q B D E G t2 t14 t15 _ ?side1 ?side2 ?side3 A3.out).mono ?_
 (case side1 => exact cE); (case side2 => exact a1.out); (case side3 => exact ⟨lE⟩); rintro e w48s1 ⟨rfl, hb⟩; refine ⟨_, rfl, ?_⟩; replace g := rM g hb; replace c := kM c hb; replace b := kM b hb; replace d := kM d hb; replace HB := bS bE hb; (try clear hb); refine hK.out _ _ (bkd10_ c (bkc10_ d)) (fun hHeld => ?_); clear hK K; refine nA 7 ?_; refine oB 5 11 9 63 fun K hK => ?_; refine gS Tryz.func24 #[.agg #[.string v, .string x, .string y, .int .i64 z, .bool A, .slice L q.length M, .int .i64 B, .int .u64 D, .int .i64 E, .int .i64 G]] ?_
 with_reducible refine (ask_Names.calls k v x y z A _ _ q B D E G t3 _ ?side1 ?side2 ?side3 A4.out).mono ?_
 (case side1 => exact cE); (case side2 => exact a1.out); (case side3 => exact ⟨lE⟩); rintro e w60s1 ⟨v60s2, rfl, O, hb⟩; refine ⟨_, rfl, ?_⟩; have n0_ := rM g hb; have n1_ := Aside0.mk (Kd.R_lower O (below_size bE)); have n2_ := kM c hb; have n3_ := kM b hb; have n4_ := kM d hb; have n5_ := bS bE hb; clear g; clear c; clear b; clear d; clear HB; have g := n0_; have J := n1_; have c := n2_; have b := n3_; have d := n4_; have HB := n5_; clear n0_ n1_ n2_ n3_ n4_ n5_; (try clear hb); (try clear hb2); (try clear hk); (try clear hi); (try clear O); obtain ⟨Ao85s1, co85s1, a4⟩ := Kd.R_slice J.out; (first | subst a4 | (injection a4 with f1_ f2_ f3_; have f4_ := f1_.symm; have f5_ := f3_.symm; clear f1_ f2_ f3_; subst f4_; subst f5_)); refine hK.out _ _ (bkd10_ c (bkc10_ d)) (fun hHeld => ?_); clear hK K; refine nA 11 ?_; refine oB 6 12 9 127 fun K hK => ?_; refine gS Tryz.func68 #[.slice Ao85s1 t3.length co85s1, .string ⟨#[44]⟩] ?_
 with_reducible refine (strings_Join.calls _ _ t3 (⟨#[44]⟩ : ByteArray) t4 _ ?side1 ?side2 A5.out).mono ?_
 (case side1 => repeat (first | exact (Kd.R_reads' J.out).2.2 | (with_reducible refine Kd.C_alloc ?_ _) | (with_reducible refine Kd.C_drewN ?_ _) | (with_reducible refine Kd.C_drew ?_))); (case side2 => exact (Kd.R_reads' J.out).2.1); rintro e U ⟨rfl, hb⟩; refine ⟨_, rfl, ?_⟩; replace g := rM g hb; replace J := rM J hb; replace c := kM c hb; replace b := kM b hb; replace d := kM d hb; replace HB := bS bE hb; (try clear hb); refine hK.out _ _ (bkd10_ c (bkc10_ d)) (fun hHeld => ?_); clear hK K; refine nA 12 ?_; refine qA 7 13 9 255 ?_; refine one_ (i := 8) (N := none) (bz 9 511) rfl rfl (one_of HT_.out (by kernel_rfl)) (by decide) (fun K hK => ?_); have hs103s1 : U.cell? ⟨I, 0, none⟩ = some (.string ⟨#[]⟩) := (blk_cell b.out 0).trans rfl; have hfs103s1 := blk_frozen b.out 0; have hns103s1_0 := j.out; have hns103s1_2 := o.out; have hms103s1_0 := l.out; have hms103s1_2 := m.out; have hs109s1 : U.cell? ⟨I, 1, none⟩ = some (.string ⟨#[]⟩) := (blk_cell b.out 1).trans rfl; have hfs109s1 := blk_frozen b.out 1; have hns109s1_0 := j.out; have hns109s1_2 := o.out; have hms109s1_0 := l.out; have hms109s1_2 := m.out; have hs115s1 : U.cell? ⟨I, 2, none⟩ = some (.bool false) := (blk_cell b.out 2).trans rfl; have hfs115s1 := blk_frozen b.out 2; have hns115s1_0 := j.out; have hns115s1_2 := o.out; have hms115s1_0 := l.out; have hms115s1_2 := m.out; have hs121s1 : U.cell? ⟨I, 3, none⟩ = some (.string ⟨#[]⟩) := (blk_cell b.out 3).trans rfl; have hfs121s1 := blk_frozen b.out 3; have hns121s1_0 := j.out; have hns121s1_2 := o.out; have hms121s1_0 := l.out; have hms121s1_2 := m.out; have hs127s1 : U.cell? ⟨I, 4, none⟩ = some (.string ⟨#[]⟩) := (blk_cell b.out 4).trans rfl; have hfs127s1 := blk_frozen b.out 4; have hns127s1_0 := j.out; have hns127s1_2 := o.out; have hms127s1_0 := l.out; have hms127s1_2 := m.out; refine skip_ (w1 := ?_) (by rfl) rfl ?_ ?_
 rotate_left
 ·go_simp
  rfl
 refine hK.out _ _ fE (fun hHeld => ?_); clear hK K; refine done_ (done_of HT_.out (by kernel_rfl)) ?_
 try go_wp2
 refine bodyPost_ret (results_cell_row rfl _ _ I 46 #[.string t2, .string t14, .bool t15, .string t1, .string t4] (0, 0) _ rfl (kT) Tryz.underlying46 rfl (by kernel_rfl)) rfl ?_; exact ⟨rE, bE⟩
def octet_Join.f (l0 : List ByteArray) : Option (ByteArray) := (strings_Join.f l0 (⟨#[44, 32]⟩ : ByteArray)).bind fun a => (some a)
theorem octet_Join.calls (g : Option Addr) (i : Nat) (l0 : List ByteArray) (r : ByteArray) (w : World) (a : Kd.C Kd.string w g l0.length l0) (b : l0.length ≤ i) (h : octet_Join.f l0 = some r) :
  Calls Tryz.prog 78 #[.slice g l0.length i] w fun e w' => e = .returned (.string r) ∧ Below w.heap.size w w' := by
 have c := Aside0.mk a; have d := Aside0.mk b; clear a b; have HB := Aside0.mk (Below.refl w.heap.size w); have H := h; clear h; unfold octet_Join.f at H; replace H := bd_ H; obtain ⟨l, m, H⟩ := H; obtain rfl := si_ H; go_enter Tryz.func78, Tryz.ntmps78; go_wp2_with (first | ((with_reducible refine gate_callee (f := 68) rfl ?_); refine gL _ Tryz.func68 _ ((strings_Join.calls _ _ l0 (⟨#[44, 32]⟩ : ByteArray) l _ ?side1 ?side2 m.out).mono ?_); (case side1 => repeat (first | exact c.out | (with_reducible refine Kd.C_alloc ?_ _) | (with_reducible refine Kd.C_drewN ?_ _) | (with_reducible refine Kd.C_drew ?_))); (case side2 => exact d.out); rintro e j ⟨rfl, hb⟩; refine ⟨_, rfl, ?_⟩; replace HB := bS bE hb; (try clear hb))); go_ret; exact ⟨rE, bE⟩
def header_Get.l0 : Nat → ByteArray → List ByteArray → List (S28) → Int → Int → Option (ByteArray × Bool)
 | 0, _, _, _, _, _ => none
 | k + 1, j, c, d, b, a => if a < b then (if 0 ≤ a then (if a < (d.length : Int) then ((octet_Fold.f ((rd_T28 d a).f0) j).bind fun e => (if e = true then ((octet_Trim.f k ((rd_T28 d a).f1)).bind fun g => (if c.length < 8796093022208 then (header_Get.l0 k j (c ++ [g]) d b (wrap64 (a + 1))) else (none))) else (header_Get.l0 k j c d b (wrap64 (a + 1))))) else (none)) else (none)) else ((octet_Join.f c).bind fun i => (some (i, decide ((c.length : Int) > 0))))
def header_Get.f (k : Nat) (l0 : List (S28)) (a : ByteArray) : Option (ByteArray × Bool) := header_Get.l0 k a ([] : List ByteArray) l0 (l0.length : Int) 0
theorem header_Get.mono_l : ∀ k, (∀ a b c d e, LeO (header_Get.l0 k a b c d e) (header_Get.l0 (k + 1) a b c d e))
 | 0 => fun _ _ _ _ _ r h => by simp [header_Get.l0] at h
 | k + 1 => by
  have ih0 := header_Get.mono_l k
  ·intros
   have g := @octet_Trim.mono; unfold header_Get.l0
   exact moE
theorem header_Get.mono : ∀ a b k, LeO (header_Get.f k a b) (header_Get.f (k + 1) a b) := by
 intro a b k
 have ih0 := header_Get.mono_l k
 have c := @octet_Trim.mono; unfold header_Get.f
 exact moE
theorem header_Get.calls (k : Nat) (A0 : Option Addr) (c0 : Nat) (l0 : List (S28)) (X r1 : ByteArray) (r2 : Bool) (w : World) (y : Kd.C k28 w A0 l0.length l0) (z : l0.length ≤ c0) (h : header_Get.f k l0 X = some (r1, r2)) :
  Calls Tryz.prog 40 #[.slice A0 l0.length c0, .string X] w fun e w' => e = .returned (.tuple #[.string r1, .bool r2]) ∧ Below w.heap.size w w' := by
 have hu28 := Tryz.underlying28; have A := Aside0.mk y; have HC1 := Aside0.mk z; clear y z; have HB := Aside0.mk (Below.refl w.heap.size w); have H := h; clear h; unfold header_Get.f at H; have H' := Aside0.mk H; clear H; go_enter Tryz.func40, Tryz.ntmps40; go_wp2
 go_loopg [6, 11] k (fun kq B D w' => ∃ (d : List ByteArray) (a : Int), D = .int .i64 a ∧ Aside0 (header_Get.l0 kq X d l0 (l0.length : Int) a = some (r1, r2)) ∧ Aside0 (kq ≤ k) ∧ Aside0 (Kd.R Kd.string 9 w' w.heap.size (fun _ => True) B d) ∧ Aside0 (Below w.heap.size w w'))
 case atStart => exact ⟨(([] : List ByteArray)), (0), rS, H', ⟨Nat.le_refl _⟩, ⟨by first | exact Kd.R_nil _ _ _ _ _ | exact Kd.N_nil _ _ _ _ _ | exact Kd.V_nil _ _ _ _ _ | exact Kd.Q_nil _ _ _ _ _ | exact Kd.S_nil _ _ _ _ _⟩, ⟨bE⟩⟩
 case round =>
  clear H'; obtain ⟨d, a, rfl, HA, s, HO_6, HB⟩ := hrel
  cases gk with
  | zero => exact absurd HA.out (by simp [header_Get.l0])
  | succ k1 =>
   have H := HA.out; clear HA
   simp only [header_Get.l0] at H
   revert H; refine iteDD_ (fun E H => ?g1p) (fun E H => ?g1n)
   case' g1p =>
    revert H; refine iteND_ fun c4b0 => iteND_ fun c5b0 H => ?_; replace H := bd_ H; obtain ⟨t1, A6, H⟩ := H; revert H; refine iteB_ (fun c7 H => ?g2p) (fun c7 H => ?g2n)
    case' g2p =>
     subst c7; replace H := bd_ H; obtain ⟨t2, A8, H⟩ := H; revert H; refine iteNA_ fun G H => ?_
     try replace H := bsm_ H
     generalize q : (d ++ [t2]) = y10 at H; have I := Aside0.mk q.symm; clear q; have H' := Aside0.mk H; clear H; have u : 0 ≤ (a : Int) := of_decide_eq_true mE; have v : a < (l0.length : Int) := of_decide_eq_true mE; obtain ⟨ad11, e3, i, j⟩ := at_T28 A.out a u v
     cases e3
     replace i := (HB.out.cell (World.block_lt_of_cell? w _ i)).trans i; replace j := (HB.out.cell (World.block_lt_of_cell? w _ j)).trans j; replace u := eq_true u; replace v := eq_true v; have r := trivial; have J := trivial
    case' g2n =>
     subst c7; have H' := Aside0.mk H; clear H; have p8 : 0 ≤ (a : Int) := of_decide_eq_true mE; have q8 : a < (l0.length : Int) := of_decide_eq_true mE; obtain ⟨ad8, e2, m, n⟩ := at_T28 A.out a p8 q8
     cases e2
     replace m := (HB.out.cell (World.block_lt_of_cell? w _ m)).trans m; replace n := (HB.out.cell (World.block_lt_of_cell? w _ n)).trans n; replace p8 := eq_true p8; replace q8 := eq_true q8; have r := trivial; have K := trivial
   case' g1n =>
    replace H := bd_ H; obtain ⟨t1, A4, H⟩ := H
    simp only [Option.some.injEq, Prod.mk.injEq] at H
    obtain ⟨rfl, rfl⟩ := H; obtain ⟨Ao2, co2, eo2⟩ := Kd.R_slice HO_6.out; subst eo2; have L := trivial
   all_goals
    go_wp2_with (first | ((with_reducible refine gate_dst (N := 8) rfl ?_); refine bxE (N := 8) (cs := #[.string ⟨#[]⟩, .string ⟨#[]⟩]) (t := 28) fun l hg w1a2 hbox hb => ?_; have c := Aside0.mk (hbox); have GW1a1 := sE (w := w) hg; have GE1a1 := sE (w := w) hg; replace HO_6 := rM HO_6 hb; replace HB := bS bE hb; clear hb hbox hg; obtain ⟨Y, Z, M, O⟩ := bk2_ c) | ((with_reducible refine gate_callee (f := 70) rfl ?_); refine gL _ Tryz.func70 _ ((octet_Fold.calls ((rd_T28 l0 a).f0) X _ _ A6.out).mono ?_); rintro e w2a1 ⟨rfl, hb⟩; refine ⟨_, rfl, ?_⟩; have n0_ := Aside0.mk (Kd.R_below (by (with_reducible repeat (first | apply Kd.R_alloc | apply Kd.R_drewN | apply Kd.R_drew)); exact (Kd.R_mono (Kd.R_far (p := ⟨l, 1, none⟩) (Kd.R_far (p := ⟨l, 0, none⟩) (Kd.R_types HO_6.out c.out (by decide)) (fun _ hk => hk.2) (.string ((rd_T28 l0 a).f0))) (fun _ hk => hk.2) (.string ((rd_T28 l0 a).f1))) (fun _ h_ => h_.1))) hb); have n1_ := Aside0.mk (blk_below (g := l) (o := .cells #[.string ((rd_T28 l0 a).f0), .string ((rd_T28 l0 a).f1)] 28 (0, 0)) (kT) hb); have n2_ := bS bE hb; clear HO_6; clear c; clear HB; have HO_6 := n0_; have c := n1_; have HB := n2_; clear n0_ n1_ n2_; (try clear hb); (try clear hb2); (try clear hk); (try clear hi); obtain ⟨a0, a2, U, W⟩ := bk2_ c) | ((with_reducible refine gate_callee (f := 77) rfl ?_); refine gL _ Tryz.func77 _ ((octet_Trim.calls k1 ((rd_T28 l0 a).f1) _ _ A8.out).mono ?_); rintro e w' ⟨rfl, ⟨nd, rfl⟩⟩; refine ⟨_, rfl, ?_⟩) | ((with_reducible refine gate_builtin (b := .append) (xs := #[.tmp 19, .tmp 23]) rfl ?_); at_builtin; refine Kd.R_append Kd.string (w0 := w) w.heap.size rfl (.tmp 19) (.tmp 23) 39 9 (.string ⟨#[]⟩) 16 rfl Tryz.underlying39 info9 rfl (by decide) (by omega) u6 d t2 [.string t2] (fun _ => True) (fun _ => False) rfl rfl ?aP (fun _ hk => hk.elim) ?aF ?aO ?aB ?aS ?aL ?_; (case aP => exact rfl); (case aB => exact bE); (case aF => exact (fun _ _ => trivial)); (case aO => exact (rK HO_6.out)); (case aS => exact (below_size bE)); (case aL => have := G.out; omega); intro v4a1 w4a2 ho hb hg hat; rw [← I.out] at ho; have n0_ := Aside0.mk (blk_grown (g := l) (o := .cells #[.string ((rd_T28 l0 a).f0), .string ((rd_T28 l0 a).f1)] 28 (0, 0)) (kC c) hg (Kd.R_ne HO_6.out c.out (by decide))); have n1_ := Aside0.mk (hb); have n2_ := Aside0.mk (ho); clear c; clear HB; clear HO_6; have c := n0_; have HB := n1_; have x := n2_; clear n0_ n1_ n2_; clear ho hb hg hat) | ((with_reducible refine gate_callee (f := 78) rfl ?_); refine gL _ Tryz.func78 _ ((octet_Join.calls _ _ d t1 _ ?side1 ?side2 A4.out).mono ?_); (case side1 => repeat (first | exact (Kd.R_reads' HO_6.out).2.2 | (with_reducible refine Kd.C_alloc ?_ _) | (with_reducible refine Kd.C_drewN ?_ _) | (with_reducible refine Kd.C_drew ?_))); (case side2 => exact (Kd.R_reads' HO_6.out).2.1); rintro e w5a1 ⟨rfl, hb⟩; refine ⟨_, rfl, ?_⟩; replace HO_6 := rM HO_6 hb; replace HB := bS bE hb; (try clear hb)))
    first
    | clear r
      go_roundg k1
      case measure => have := s.out; omega
      first
      | clear J
        case rel => exact ⟨(y10), (wrap64 (a + 1)), rS, H', ⟨by have := s.out; omega⟩, ⟨by (with_reducible repeat (first | apply Kd.R_alloc | apply Kd.R_drewN | apply Kd.R_drew)); exact x.out⟩, ⟨bE⟩⟩
      | clear K
        case rel => exact ⟨(d), (wrap64 (a + 1)), rS, H', ⟨by have := s.out; omega⟩, ⟨by (with_reducible repeat (first | apply Kd.R_alloc | apply Kd.R_drewN | apply Kd.R_drew)); exact HO_6.out⟩, ⟨bE⟩⟩
    | clear L
      go_ret2; exact ⟨rE, bE⟩
mutual
def cors_Check.j0 : Nat → ByteArray → Bool → List (S28) → ByteArray → Bool → Bool → Option (Int)
 | 0, _, _, _, _, _, _ => none
 | k + 1, d, b, c, e, g, a => if a = true then (some 0) else (if g = true then (cors_Check.j1 k b c (e.toList != d.toList)) else (cors_Check.j1 k b c true))
def cors_Check.j1 : Nat → Bool → List (S28) → Bool → Option (Int)
 | 0, _, _, _ => none
 | k + 1, c, d, b => if b = true then (some 15) else ((header_Get.f k d (⟨#[97, 99, 99, 101, 115, 115, 45, 99, 111, 110, 116, 114, 111, 108, 45, 97, 108, 108, 111, 119, 45, 99, 114, 101, 100, 101, 110, 116, 105, 97, 108, 115]⟩ : ByteArray)).bind fun a => (if c = true then (if a.1.toList = ([116, 114, 117, 101] : List UInt8) then (some 0) else (some 15)) else (some 0)))
end
def cors_Check.f (k : Nat) (c : ByteArray) (b : Bool) (l2 : List (S28)) : Option (Int) := (header_Get.f k l2 (⟨#[97, 99, 99, 101, 115, 115, 45, 99, 111, 110, 116, 114, 111, 108, 45, 97, 108, 108, 111, 119, 45, 111, 114, 105, 103, 105, 110]⟩ : ByteArray)).bind fun a => (if a.2 = true then (if a.1.toList = ([42] : List UInt8) then (cors_Check.j0 k c b l2 a.1 a.2 (!b)) else (cors_Check.j0 k c b l2 a.1 a.2 false)) else (cors_Check.j0 k c b l2 a.1 a.2 false))
theorem cors_Check.mono_l : ∀ k, (∀ a b c d e g, LeO (cors_Check.j0 k a b c d e g) (cors_Check.j0 (k + 1) a b c d e g)) ∧ (∀ a b c, LeO (cors_Check.j1 k a b c) (cors_Check.j1 (k + 1) a b c))
 | 0 => ⟨fun _ _ _ _ _ _ r h => by simp [cors_Check.j0] at h, fun _ _ _ r h => by simp [cors_Check.j1] at h⟩
 | k + 1 => by
  obtain ⟨ih0, ih1⟩ := cors_Check.mono_l k
  have i := @header_Get.mono
  refine ⟨?_, ?_⟩
  ·intros
   unfold cors_Check.j0
   exact moE
  ·intros
   unfold cors_Check.j1
   exact moE
theorem cors_Check.mono : ∀ a b c k, LeO (cors_Check.f k a b c) (cors_Check.f (k + 1) a b c) := by
 intro a b c k
 obtain ⟨ih0, ih1⟩ := cors_Check.mono_l k
 have d := @header_Get.mono; unfold cors_Check.f
 exact moE
theorem cors_Check.calls (k : Nat) (j : ByteArray) (g : Bool) (X : Option Addr) (c2 : Nat) (l2 : List (S28)) (r : Int) (w : World) (u : Kd.C k28 w X l2.length l2) (v : l2.length ≤ c2) (h : cors_Check.f k j g l2 = some r) :
  Calls Tryz.prog 72 #[.string j, .bool g, .slice X l2.length c2] w fun e w' => e = .returned (.int .i64 r) ∧ Below w.heap.size w w' := by
 have M := Aside0.mk u; have x := Aside0.mk v; clear u v; have HB := Aside0.mk (Below.refl w.heap.size w); have H := h; clear h; unfold cors_Check.f at H; replace H := bd_ H; obtain ⟨⟨l, t⟩, A3, H⟩ := H; replace H : (if t = true then (if l.toList = ([42] : List UInt8) then (cors_Check.j0 k j g l2 l t (!g)) else (cors_Check.j0 k j g l2 l t false)) else (cors_Check.j0 k j g l2 l t false)) = some r := H; have m := Aside0.mk H; clear H; go_enter Tryz.func72, Tryz.ntmps72
 go_upto_region 2 with (first | ((with_reducible refine gate_callee (f := 40) rfl ?_); refine gL _ Tryz.func40 _ ((header_Get.calls k _ _ l2 (⟨#[97, 99, 99, 101, 115, 115, 45, 99, 111, 110, 116, 114, 111, 108, 45, 97, 108, 108, 111, 119, 45, 111, 114, 105, 103, 105, 110]⟩ : ByteArray) l t _ ?side1 ?side2 A3.out).mono ?_); (case side1 => repeat (first | exact M.out | (with_reducible refine Kd.C_alloc ?_ _) | (with_reducible refine Kd.C_drewN ?_ _) | (with_reducible refine Kd.C_drew ?_))); (case side2 => exact x.out); rintro e Y ⟨rfl, hb⟩; refine ⟨_, rfl, ?_⟩; replace HB := bS bE hb; (try clear hb)))
 (try simp only [Act.put, List.setIfInBounds_toArray, List.set_cons_zero, List.set_cons_succ])
 go_cut [24] (fun y wc => ∃ (kq : Nat) (b : Bool), y = .bool b ∧ Aside0 (cors_Check.j0 kq j g l2 l t b = some r) ∧ Aside0 (kq ≤ k) ∧ Aside0 (Below w.heap.size w wc))
 case first =>
  have H := m.out; clear m; revert H; refine iteB_ (fun z H => ?g1p) (fun z H => ?g1n)
  case' g1p =>
   subst z; revert H; refine iteEF_ (fun a d H => ?g2p) (fun Z a d H => ?g2n)
   case' g2p =>
    (first | rw [a] | (simp only [i64_w, i32_w]; rw [a]) | skip); have H' := Aside0.mk H; clear H; have A := trivial
   case' g2n =>
    (first | rw [a] | (simp only [i64_w, i32_w]; rw [a]) | skip); have H' := Aside0.mk H; clear H; have i := trivial
  case' g1n =>
   subst z; have H' := Aside0.mk H; clear H; have i := trivial
  all_goals
   go_wp2; go_meet
   first
   | clear A
     case rel => exact ⟨_, (!g), rS, H', ⟨oE⟩, ⟨bE⟩⟩
   | clear i
     case rel => exact ⟨_, (false), rS, H', ⟨oE⟩, ⟨bE⟩⟩
 case rest =>
  clear m; (try clear c2); (try clear z); (try clear Z); (try clear a); (try clear d); obtain ⟨kq, b, rfl, HA, B, HB⟩ := hcut
  cases kq with
  | zero => exact absurd HA.out (by simp [cors_Check.j0])
  | succ O =>
   have H := HA.out; clear HA
   simp only [cors_Check.j0] at H
   revert H; refine iteB_ (fun K H => ?g4p) (fun K H => ?g4n)
   case' g4p =>
    subst K; obtain rfl := si_ H; have D := trivial
   case' g4n =>
    subst K; have n := Aside0.mk H; clear H; have E := trivial
   all_goals
    first
    | clear D
      go_wp2; go_ret; exact ⟨rE, bE⟩
    | clear E
      go_upto_region 4 with (first | (fail))
      go_cut [31] (fun G wc => ∃ (kq : Nat) (c : Bool), G = .bool c ∧ Aside0 (cors_Check.j1 kq g l2 c = some r) ∧ Aside0 (kq ≤ O) ∧ Aside0 (Below w.heap.size w wc))
      case first =>
       have H := n.out; clear n; revert H; refine iteB_ (fun L H => ?g6p) (fun L H => ?g6n)
       case' g6p =>
        subst L; have H' := Aside0.mk H; clear H; have I := trivial
       case' g6n =>
        subst L; have H' := Aside0.mk H; clear H; have J := trivial
       all_goals
        go_wp2; go_meet
        first
        | clear I
          case rel => exact ⟨_, ((l.toList != j.toList)), rS, H', ⟨by have := B.out; first | omega | exact Nat.le_refl _⟩, ⟨bE⟩⟩
        | clear J
          case rel => exact ⟨_, (true), rS, H', ⟨by have := B.out; first | omega | exact Nat.le_refl _⟩, ⟨bE⟩⟩
      case rest =>
       clear n; (try clear L); (try clear c2); (try clear z); (try clear Z); (try clear a); (try clear d); (try clear K); obtain ⟨kq, c, rfl, HA, HJ9, HB⟩ := hcut
       cases kq with
       | zero => exact absurd HA.out (by simp [cors_Check.j1])
       | succ U =>
        have H := HA.out; clear HA
        simp only [cors_Check.j1] at H
        revert H; refine iteB_ (fun o H => ?g8p) (fun o H => ?g8n)
        case' g8p =>
         subst o; obtain rfl := si_ H
        case' g8n =>
         subst o; replace H := bd_ H; obtain ⟨⟨t4, t5⟩, W, H⟩ := H; replace H : (if g = true then (if t4.toList = ([116, 114, 117, 101] : List UInt8) then (some 0) else (some 15)) else (some 0)) = some r := H; revert H; refine iteB_ (fun p H => ?g9p) (fun p H => ?g9n)
         case' g9p =>
          subst p; revert H; refine iteEF_ (fun q s H => ?g10p) (fun c14 q s H => ?g10n)
          case' g10p =>
           obtain rfl := si_ H
          case' g10n =>
           obtain rfl := si_ H
         case' g9n =>
          subst p; obtain rfl := si_ H
        all_goals
         go_wp2_with (first | ((with_reducible refine gate_callee (f := 40) rfl ?_); refine gL _ Tryz.func40 _ ((header_Get.calls U _ _ l2 (⟨#[97, 99, 99, 101, 115, 115, 45, 99, 111, 110, 116, 114, 111, 108, 45, 97, 108, 108, 111, 119, 45, 99, 114, 101, 100, 101, 110, 116, 105, 97, 108, 115]⟩ : ByteArray) t4 t5 _ ?side1 ?side2 W.out).mono ?_); (case side1 => exact cE); (case side2 => exact x.out); rintro e w3a1 ⟨rfl, hb⟩; refine ⟨_, rfl, ?_⟩; replace HB := bS bE hb; (try clear hb))); go_ret; exact ⟨rE, bE⟩
def octet_Split.l0 : Nat → List ByteArray → List ByteArray → Int → Int → Option (List ByteArray)
 | 0, _, _, _, _ => none
 | k + 1, c, d, e, b => if b < e then (if 0 ≤ b then (if b < (d.length : Int) then ((octet_Trim.f k (rdOf ByteArray.empty d b)).bind fun a => (if a.toList = ([] : List UInt8) then (octet_Split.l0 k c d e (wrap64 (b + 1))) else (if c.length < 8796093022208 then (octet_Split.l0 k (c ++ [a]) d e (wrap64 (b + 1))) else (none)))) else (none)) else (none)) else (some c)
def octet_Split.f (k : Nat) (b : ByteArray) : Option (List ByteArray) := (strings_Split.f b (⟨#[44]⟩ : ByteArray)).bind fun a => (octet_Split.l0 k ([] : List ByteArray) a (a.length : Int) 0)
theorem octet_Split.mono_l : ∀ k, (∀ a b c d, LeO (octet_Split.l0 k a b c d) (octet_Split.l0 (k + 1) a b c d))
 | 0 => fun _ _ _ _ r h => by simp [octet_Split.l0] at h
 | k + 1 => by
  have ih0 := octet_Split.mono_l k
  ·intros
   have e := @octet_Trim.mono; unfold octet_Split.l0
   exact moE
theorem octet_Split.mono : ∀ a k, LeO (octet_Split.f k a) (octet_Split.f (k + 1) a) := by
 intro a k
 have ih0 := octet_Split.mono_l k
 have b := @octet_Trim.mono; unfold octet_Split.f
 exact moE
theorem octet_Split.calls (k : Nat) (K : ByteArray) (r : List ByteArray) (w : World) (h : octet_Split.f k K = some r) :
  Calls Tryz.prog 169 #[.string K] w fun e w' => ∃ u : Value, e = .returned (u) ∧ Kd.R Kd.string 9 w' w.heap.size (fun _ => True) u r ∧ Below w.heap.size w w' := by
 have HB := Aside0.mk (Below.refl w.heap.size w); have H := h; clear h; unfold octet_Split.f at H; replace H := bd_ H; obtain ⟨l, A1, H⟩ := H; have H' := Aside0.mk H; clear H; go_enter Tryz.func169, Tryz.ntmps169; go_wp2_with (first | ((with_reducible refine gate_callee (f := 142) rfl ?_); refine gL _ Tryz.func142 _ ((strings_Split.calls K (⟨#[44]⟩ : ByteArray) l _ A1.out).mono ?_); rintro e Y ⟨Z, rfl, g, hb⟩; refine ⟨_, rfl, ?_⟩; have n0_ := Aside0.mk (Kd.R_lower g (below_size bE)); have n1_ := bS bE hb; clear HB; have i := n0_; have HB := n1_; clear n0_ n1_; (try clear hb); (try clear hb1); (try clear hk); (try clear hi); (try clear g); obtain ⟨j, d, o⟩ := Kd.R_slice i.out; subst o))
 go_loopg [3, 9] k (fun kq m v w' => ∃ (c : List ByteArray) (a : Int), v = .int .i64 a ∧ Aside0 (octet_Split.l0 kq c l (l.length : Int) a = some r) ∧ Aside0 (kq ≤ k) ∧ Aside0 (Kd.R Kd.string 9 w' w.heap.size (fun k_ => some k_ ≠ ((.slice j l.length d) : Value).ownBlock) m c) ∧ Aside0 (Kd.R Kd.string 9 w' w.heap.size (fun k_ => some k_ ≠ (m : Value).ownBlock) (.slice j l.length d) l) ∧ Aside0 (Below w.heap.size w w'))
 case atStart => exact ⟨(([] : List ByteArray)), (0), rS, H', ⟨Nat.le_refl _⟩, ⟨by first | exact Kd.R_nil _ _ _ _ _ | exact Kd.N_nil _ _ _ _ _ | exact Kd.V_nil _ _ _ _ _ | exact Kd.Q_nil _ _ _ _ _ | exact Kd.S_nil _ _ _ _ _⟩, ⟨by (with_reducible repeat (first | apply Kd.R_alloc | apply Kd.R_drewN | apply Kd.R_drew)); exact Kd.R_mono i.out (fun _ hk => (by simp [Value.ownBlock]))⟩, ⟨bE⟩⟩
 case round =>
  clear H'; obtain ⟨c, a, rfl, HA, p, HO_3, HO_7, HB⟩ := hrel
  cases gk with
  | zero => exact absurd HA.out (by simp [octet_Split.l0])
  | succ k1 =>
   have H := HA.out; clear HA
   simp only [octet_Split.l0] at H
   revert H; refine iteDD_ (fun x H => ?g1p) (fun x H => ?g1n)
   case' g1p =>
    revert H; refine iteND_ fun a1 => iteND_ fun a2 H => ?_; replace H := bd_ H; obtain ⟨L, A6, H⟩ := H; revert H; refine iteEF_ (fun y z H => ?g2p) (fun c7 y z H => ?g2n)
    case' g2p =>
     have H' := Aside0.mk H; clear H; have M : 0 ≤ (a : Int) := of_decide_eq_true mE; have O : a < (l.length : Int) := of_decide_eq_true mE; obtain ⟨ad8, U, W⟩ := Kd.at_string (Kd.R_reads' HO_7.out).2.2 a M O
     cases U
     replace M := eq_true M; replace O := eq_true O; have n := trivial; have A := trivial
    case' g2n =>
     revert H; refine iteNA_ fun B H => ?_
     try replace H := bsm_ H
     generalize D : (c ++ [L]) = y9 at H; have X := Aside0.mk D.symm; clear D; have H' := Aside0.mk H; clear H; have q : 0 ≤ (a : Int) := of_decide_eq_true mE; have s : a < (l.length : Int) := of_decide_eq_true mE; obtain ⟨E, U, J⟩ := Kd.at_string (Kd.R_reads' HO_7.out).2.2 a q s
     cases U
     replace q := eq_true q; replace s := eq_true s; have n := trivial; have G := trivial
   case' g1n =>
    obtain rfl := si_ H; have I := trivial
   all_goals
    go_wp2_with (first | ((with_reducible refine gate_callee (f := 77) rfl ?_); refine gL _ Tryz.func77 _ ((octet_Trim.calls k1 (rdOf ByteArray.empty l a) _ _ A6.out).mono ?_); rintro e w' ⟨rfl, ⟨nd, rfl⟩⟩; refine ⟨_, rfl, ?_⟩) | ((with_reducible refine gate_builtin (b := .append) (xs := #[.tmp 17, .tmp 19]) rfl ?_); at_builtin; refine Kd.R_append Kd.string (w0 := w) w.heap.size rfl (.tmp 17) (.tmp 19) 39 9 (.string ⟨#[]⟩) 16 rfl Tryz.underlying39 info9 rfl (by decide) (by omega) u3 c L [.string L] (fun k_ => some k_ ≠ (.slice (some E) l.length d : Value).ownBlock) (fun _ => False) rfl rfl ?aP (fun _ hk => hk.elim) ?aF ?aO ?aB ?aS ?aL ?_; (case aP => exact rfl); (case aB => exact bE); (case aF => exact (fun k_ hk => Kd.fresh' (Kd.R_lt (rK HO_7.out)) k_ hk)); (case aO => exact (rK HO_3.out)); (case aS => exact (below_size bE)); (case aL => have := B.out; omega); intro a3 a4 ho hb hg hat; rw [← X.out] at ho; have n0_ := Aside0.mk (Kd.R_after (ok := (fun _ => True)) (rK (Kd.R_mono HO_7.out (fun _ hk => ⟨trivial, hk⟩))) hg hat); have n1_ := Aside0.mk (hb); have n2_ := Aside0.mk (ho); clear HO_7; clear HB; clear HO_3; have HO_7 := n0_; have HB := n1_; have t := n2_; clear n0_ n1_ n2_; clear ho hb hg hat))
    first
    | clear n
      go_roundg k1
      case measure => have := p.out; omega
      first
      | clear A
        case rel => exact ⟨(c), (wrap64 (a + 1)), rS, H', ⟨by have := p.out; omega⟩, ⟨by (with_reducible repeat (first | apply Kd.R_alloc | apply Kd.R_drewN | apply Kd.R_drew)); exact HO_3.out⟩, ⟨by (with_reducible repeat (first | apply Kd.R_alloc | apply Kd.R_drewN | apply Kd.R_drew)); exact HO_7.out⟩, ⟨bE⟩⟩
      | clear G
        case rel => exact ⟨(y9), (wrap64 (a + 1)), rS, H', ⟨by have := p.out; omega⟩, ⟨by (with_reducible repeat (first | apply Kd.R_alloc | apply Kd.R_drewN | apply Kd.R_drew)); exact t.out⟩, ⟨rK (Kd.R_mono HO_7.out (fun _ hk => hk.2))⟩, ⟨bE⟩⟩
    | clear I
      go_ret; exact ⟨_, rE, by (with_reducible repeat (first | apply Kd.R_alloc | apply Kd.R_drewN | apply Kd.R_drew)); exact Kd.R_mono HO_3.out (fun _ hk => trivial), bE⟩
end Go.Proofs.YtfmajangcbgooaaGreatDoor.Pr
