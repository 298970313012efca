import Derived.Test.YtfmajangcbgooaaGreatDoorPr0
import Derived.Test.YtfmajangcbgooaaGreatDoorK0
import Derived.Test.YtfmajangcbgooaaGreatDoorPr14
import Derived.Test.YtfmajangcbgooaaGreatDoorPr16
import Derived.Test.YtfmajangcbgooaaGreatDoorG6
import Derived.WalkLawsBesides
namespace Go.Proofs.YtfmajangcbgooaaGreatDoor.Pr
open Go.RowKit Go.Proofs.YtfmajangcbgooaaGreatDoorW.PrintWords Go.Proofs.YtfmajangcbgooaaGreatDoorW.PrintLast Go.Proofs.YtfmajangcbgooaaGreatDoorW.PrintMore
attribute [local go_sem] max2_int min2_int max_two min_two max_three min_three max_four min_four
set_option linter.unusedVariables false
set_option maxHeartbeats 64000000
set_option maxRecDepth 100000
set_option linter.unusedSimpArgs false
mutual
def lockkeeperref4_Parse.l0 : Nat → Int → ByteArray → ByteArray → Int → ByteArray → ByteArray → Int → ByteArray → ByteArray → Option (ByteArray × ByteArray × Int × ByteArray × ByteArray × Int)
 | 0, _, _, _, _, _, _, _, _, _ => none
 | k + 1, l, b, c, d, e, g, i, a, j => if l < (a.size : Int) then (if 0 ≤ l then ((lockkeeperref4_pathByte.f k (bt a l)).bind fun m => (if m = true then (lockkeeperref4_Parse.l0 k (wrap64 (l + 1)) b c d e g i a j) else (some ((⟨#[]⟩ : ByteArray), (⟨#[]⟩ : ByteArray), 0, (⟨#[]⟩ : ByteArray), (⟨#[]⟩ : ByteArray), 3)))) else (none)) else (lockkeeperref4_Parse.l1 k 1 b c d e g i a j)
def lockkeeperref4_Parse.l1 : Nat → Int → ByteArray → ByteArray → Int → ByteArray → ByteArray → Int → ByteArray → ByteArray → Option (ByteArray × ByteArray × Int × ByteArray × ByteArray × Int)
 | 0, _, _, _, _, _, _, _, _, _ => none
 | k + 1, l, b, c, d, e, g, i, j, a => if l < (a.size : Int) then (if 0 ≤ l then ((lockkeeperref4_queryByte.f k (bt a l)).bind fun n => (if n = true then (lockkeeperref4_Parse.l1 k (wrap64 (l + 1)) b c d e g i j a) else (some ((⟨#[]⟩ : ByteArray), (⟨#[]⟩ : ByteArray), 0, (⟨#[]⟩ : ByteArray), (⟨#[]⟩ : ByteArray), 3)))) else (none)) else ((lockkeeperref4_Clean.f k j).bind fun m => ((lockkeeperref3_Show.f k b c d).bind fun o => (if (wrap64 ((wrap64 ((o.size : Int) + (m.size : Int))) + (a.size : Int))) > 512 then (some ((⟨#[]⟩ : ByteArray), (⟨#[]⟩ : ByteArray), 0, (⟨#[]⟩ : ByteArray), (⟨#[]⟩ : ByteArray), 4)) else (some (e, g, i, m, a, 0)))))
end
def lockkeeperref4_Parse.f (k : Nat) (e : ByteArray) : Option (ByteArray × ByteArray × Int × ByteArray × ByteArray × Int) := if (e.size : Int) > 512 then (some ((⟨#[]⟩ : ByteArray), (⟨#[]⟩ : ByteArray), 0, (⟨#[]⟩ : ByteArray), (⟨#[]⟩ : ByteArray), 4)) else ((lockkeeperref4_first.f k e 0 (⟨#[35]⟩ : ByteArray)).bind fun a => (if 0 ≤ a then (if a ≤ (e.size : Int) then ((lockkeeperref3_Behind.f k (e.extract 0 (a : Int).toNat)).bind fun g => (if g < 0 then (some ((⟨#[]⟩ : ByteArray), (⟨#[]⟩ : ByteArray), 0, (⟨#[]⟩ : ByteArray), (⟨#[]⟩ : ByteArray), 3)) else ((lockkeeperref4_first.f k (e.extract 0 (a : Int).toNat) (wrap64 (g + 3)) (⟨#[47, 63]⟩ : ByteArray)).bind fun c => (if 0 ≤ c then (if c ≤ ((e.extract 0 (a : Int).toNat).size : Int) then ((lockkeeperref3_Parse.f k ((e.extract 0 (a : Int).toNat).extract 0 (c : Int).toNat)).bind fun b => (if b.2.2.2 = 0 then ((lockkeeperref4_first.f k (e.extract 0 (a : Int).toNat) c (⟨#[63]⟩ : ByteArray)).bind fun d => (if c ≤ d then (if d ≤ ((e.extract 0 (a : Int).toNat).size : Int) then (if 0 ≤ d then (lockkeeperref4_Parse.l0 k 0 b.1 b.2.1 b.2.2.1 b.1 b.2.1 b.2.2.1 ((e.extract 0 (a : Int).toNat).extract (c : Int).toNat (d : Int).toNat) ((e.extract 0 (a : Int).toNat).extract (d : Int).toNat (e.extract 0 (a : Int).toNat).size)) else (none)) else (none)) else (none))) else (some ((⟨#[]⟩ : ByteArray), (⟨#[]⟩ : ByteArray), 0, (⟨#[]⟩ : ByteArray), (⟨#[]⟩ : ByteArray), b.2.2.2)))) else (none)) else (none))))) else (none)) else (none)))
theorem lockkeeperref4_Parse.mono_l : ∀ k, (∀ a b c d e g i j l, LeO (lockkeeperref4_Parse.l0 k a b c d e g i j l) (lockkeeperref4_Parse.l0 (k + 1) a b c d e g i j l)) ∧ (∀ a b c d e g i j l, LeO (lockkeeperref4_Parse.l1 k a b c d e g i j l) (lockkeeperref4_Parse.l1 (k + 1) a b c d e g i j l))
 | 0 => ⟨fun _ _ _ _ _ _ _ _ _ r h => by simp [lockkeeperref4_Parse.l0] at h, fun _ _ _ _ _ _ _ _ _ r h => by simp [lockkeeperref4_Parse.l1] at h⟩
 | k + 1 => by
  obtain ⟨ih0, ih1⟩ := lockkeeperref4_Parse.mono_l k
  have m := @lockkeeperref3_Behind.mono; have n := @lockkeeperref3_Parse.mono; have o := @lockkeeperref3_Show.mono; have p := @lockkeeperref4_Clean.mono; have q := @lockkeeperref4_first.mono; have s := @lockkeeperref4_pathByte.mono; have t := @lockkeeperref4_queryByte.mono
  refine ⟨?_, ?_⟩
  ·intros
   unfold lockkeeperref4_Parse.l0
   exact moE
  ·intros
   unfold lockkeeperref4_Parse.l1
   exact moE
theorem lockkeeperref4_Parse.mono : ∀ a k, LeO (lockkeeperref4_Parse.f k a) (lockkeeperref4_Parse.f (k + 1) a) := by
 intro a k
 obtain ⟨ih0, ih1⟩ := lockkeeperref4_Parse.mono_l k
 have b := @lockkeeperref3_Behind.mono; have c := @lockkeeperref3_Parse.mono; have d := @lockkeeperref3_Show.mono; have e := @lockkeeperref4_Clean.mono; have g := @lockkeeperref4_first.mono; have i := @lockkeeperref4_pathByte.mono; have j := @lockkeeperref4_queryByte.mono; unfold lockkeeperref4_Parse.f
 exact moE
def lockkeeperref4_Parse.T12 : Bool × List (List Nat × List Nat) := (true, [([], []), ([], []), ([], []), ([], []), ([1, 2, 3], [1, 2, 3]), ([], []), ([], []), ([5, 6], [5, 6]), ([0, 4, 7], [0, 4, 7]), ([], []), ([9, 8, 0, 1, 2, 3, 4, 5, 6, 7, 8, 9], [8, 9])])
def lockkeeperref4_Parse.B12 : List Nat := [0, 0, 0, 0, 14, 0, 0, 96, 255, 0, 1023]
theorem lockkeeperref4_Parse.tab12 : rtab .any (opsOf Tryz.f50 12) = lockkeeperref4_Parse.T12 := by kernel_rfl
theorem lockkeeperref4_Parse.bits12 : waitsOk lockkeeperref4_Parse.T12.2 lockkeeperref4_Parse.B12 = true := by kernel_rfl
def lockkeeperref4_Parse.T24 : Bool × List (List Nat × List Nat) := (true, [([], []), ([0], [0]), ([1], [1]), ([], []), ([3], [3]), ([4], [4]), ([2, 5], [2, 5]), ([], []), ([7], [7]), ([8], [8]), ([6, 9], [6, 9]), ([10], [10])])
def lockkeeperref4_Parse.B24 : List Nat := [0, 1, 3, 0, 8, 24, 63, 0, 128, 384, 1023, 2047]
theorem lockkeeperref4_Parse.tab24 : rtab .any (opsOf Tryz.f50 24) = lockkeeperref4_Parse.T24 := by kernel_rfl
theorem lockkeeperref4_Parse.bits24 : waitsOk lockkeeperref4_Parse.T24.2 lockkeeperref4_Parse.B24 = true := by kernel_rfl
theorem lockkeeperref4_Parse.calls (k : Nat) (a0 r1 r2 : ByteArray) (r3 : Int) (r4 r5 : ByteArray) (r6 : Int) (w : World) (h : lockkeeperref4_Parse.f k a0 = some (r1, r2, r3, r4, r5, r6)) :
  Calls Tryz.prog 50 #[.string a0] w fun e w' => e = .returned (.tuple #[.agg #[.string r1, .string r2, .int .i64 r3, .string r4, .string r5], .int .i64 r6]) ∧ Below w.heap.size w w' := by
 have hu72 := Tryz.underlying72; have hu70 := Tryz.underlying70; have HB := Aside0.mk (Below.refl w.heap.size w); have H := h; clear h; unfold lockkeeperref4_Parse.f at H; revert H; refine itePP_ (fun c1 H => ?g1p) (fun c1 H => ?g1n)
 case' g1p =>
  have ar : decide (512 < (a0.size : Int)) = true := decide_eq_true c1; have au : decide (512 < a0.size) = true := decide_eq_true (by omega); clear c1
  simp only [Option.some.injEq, Prod.mk.injEq] at H
  obtain ⟨rfl, rfl, rfl, rfl, rfl, rfl⟩ := H; have av := trivial
 case' g1n =>
  have ar : decide (512 < (a0.size : Int)) = false := decide_eq_false c1; have au : decide (512 < a0.size) = false := decide_eq_false (by omega); clear c1; replace H := bd_ H; obtain ⟨t1, A2, H⟩ := H; revert H; refine iteNT_ fun c3b0 c3b1 => iteNT_ fun c4b0 c4b1 H => ?_; generalize hx5_ : a0.extract 0 (t1 : Int).toNat = X at H; replace H := bd_ H; obtain ⟨t2, A6, H⟩ := H; revert H; refine iteDD_ (fun aw H => ?g2p) (fun aw H => ?g2n)
  case' g2p =>
   simp only [Option.some.injEq, Prod.mk.injEq] at H
   obtain ⟨rfl, rfl, rfl, rfl, rfl, rfl⟩ := H; have av := trivial
  case' g2n =>
   replace H := bd_ H; obtain ⟨t3, A8, H⟩ := H; revert H; refine iteNT_ fun c9b0 c9b1 => iteNT_ fun ax ay H => ?_; replace H := bd_ H; obtain ⟨⟨O, U, W, t8⟩, A11, H⟩ := H; replace H : (if t8 = 0 then ((lockkeeperref4_first.f k X t3 (⟨#[63]⟩ : ByteArray)).bind fun t5 => (if t3 ≤ t5 then (if t5 ≤ (X.size : Int) then (if 0 ≤ t5 then (lockkeeperref4_Parse.l0 k 0 O U W O U W (X.extract (t3 : Int).toNat (t5 : Int).toNat) (X.extract (t5 : Int).toNat X.size)) else (none)) else (none)) else (none))) else (some ((⟨#[]⟩ : ByteArray), (⟨#[]⟩ : ByteArray), 0, (⟨#[]⟩ : ByteArray), (⟨#[]⟩ : ByteArray), t8))) = some (r1, r2, r3, r4, r5, r6) := H; revert H; refine iteEF_ (fun ac ad H => ?g3p) (fun c12 ac ad H => ?g3n)
   case' g3p =>
    replace H := bd_ H; obtain ⟨t5, A13, H⟩ := H; have az := eq_true (of_decide_eq_true mE : 0 ≤ t3); revert H; refine iteNT_ fun aA aB => iteNT_ fun aC aD => iteNT_ fun aE aF H => ?_; have aG := eq_true (of_decide_eq_true mE : t5 ≤ (X.size : Int)); generalize hx1_ : X.extract (t3 : Int).toNat (t5 : Int).toNat = Z at H; generalize hx19_ : X.extract (t5 : Int).toNat X.size = Y at H; have H' := Aside0.mk H; clear H; have M4_1 := trivial
   case' g3n =>
    simp only [Option.some.injEq, Prod.mk.injEq] at H
    obtain ⟨rfl, rfl, rfl, rfl, rfl, rfl⟩ := H; have av := trivial
 all_goals
  go_enter Tryz.func50, Tryz.ntmps50
  try go_wp2_with (first | ((with_reducible refine gate_dst (N := 2) rfl ?_); refine bxE (N := 2) (cs := #[.string ⟨#[]⟩, .string ⟨#[]⟩, .int .i64 0, .string ⟨#[]⟩, .string ⟨#[]⟩]) (t := 72) fun p hg q hbox hb => ?_; obtain ⟨HB', a, GW1a1⟩ := bx_ bE hg hbox hb; have GE1a1 := GW1a1; clear HB hb hbox hg; have HB := HB'; clear HB'; obtain ⟨z1a3_0, z1a3_1, z1a3_2, z1a3_3, z1a3_4, zf1a3_0, zf1a3_1, zf1a3_2, zf1a3_3, zf1a3_4⟩ := bk5_ a) | ((with_reducible refine gate_callee (f := 102) rfl ?_); refine gL _ Tryz.func102 _ ((lockkeeperref4_first.calls k a0 0 (⟨#[35]⟩ : ByteArray) _ _ A2.out).mono ?_); rintro e w' ⟨rfl, ⟨nd, rfl⟩⟩; refine ⟨_, rfl, ?_⟩; (try (rw [drewN_self q]; generalize hq_ : World.drewN q _ = q; have n0_ : Aside0 (q.heap[p]? = some (.cells #[.string ⟨#[]⟩, .string ⟨#[]⟩, .int .i64 0, .string ⟨#[]⟩, .string ⟨#[]⟩] 72 (0, 0))) := ⟨by rw [← hq_]; exact (kC a)⟩; have n1_ : Aside0 (Below w.heap.size w q) := ⟨by rw [← hq_]; exact bE⟩; clear a HB hq_; have a := n0_; have HB := n1_; clear n0_ n1_))) | ((with_reducible refine gate_callee (f := 103) rfl ?_); refine gL _ Tryz.func103 _ ((lockkeeperref3_Behind.calls k X _ _ A6.out).mono ?_); rintro e w' ⟨rfl, ⟨nd, rfl⟩⟩; refine ⟨_, rfl, ?_⟩; (try (rw [drewN_self q]; generalize hq_ : World.drewN q _ = q; have n0_ : Aside0 (q.heap[p]? = some (.cells #[.string ⟨#[]⟩, .string ⟨#[]⟩, .int .i64 0, .string ⟨#[]⟩, .string ⟨#[]⟩] 72 (0, 0))) := ⟨by rw [← hq_]; exact (kC a)⟩; have n1_ : Aside0 (Below w.heap.size w q) := ⟨by rw [← hq_]; exact bE⟩; clear a HB hq_; have a := n0_; have HB := n1_; clear n0_ n1_)); obtain ⟨z3a1_0, z3a1_1, z3a1_2, z3a1_3, z3a1_4, zf3a1_0, zf3a1_1, zf3a1_2, zf3a1_3, zf3a1_4⟩ := bk5_ a) | ((with_reducible refine gate_callee (f := 102) rfl ?_); refine gL _ Tryz.func102 _ ((lockkeeperref4_first.calls k X (wrap64 (t2 + 3)) (⟨#[47, 63]⟩ : ByteArray) _ _ A8.out).mono ?_); rintro e w' ⟨rfl, ⟨nd, rfl⟩⟩; refine ⟨_, rfl, ?_⟩; (try (rw [drewN_self q]; generalize hq_ : World.drewN q _ = q; have n0_ : Aside0 (q.heap[p]? = some (.cells #[.string ⟨#[]⟩, .string ⟨#[]⟩, .int .i64 0, .string ⟨#[]⟩, .string ⟨#[]⟩] 72 (0, 0))) := ⟨by rw [← hq_]; exact (kC a)⟩; have n1_ : Aside0 (Below w.heap.size w q) := ⟨by rw [← hq_]; exact bE⟩; clear a HB hq_; have a := n0_; have HB := n1_; clear n0_ n1_))) | ((with_reducible refine gate_callee (f := 51) rfl ?_); refine gL _ Tryz.func51 _ ((lockkeeperref3_Parse.calls k (X.extract 0 (t3 : Int).toNat) O U W _ _ A11.out).mono ?_); rintro e w5a1 ⟨rfl, hb⟩; refine ⟨_, rfl, ?_⟩; replace a := kM a hb; replace HB := bS bE hb; (try clear hb)) | ((with_reducible refine gate_dst (N := 6) rfl ?_); refine bxE (N := 6) (cs := #[.string ⟨#[]⟩, .string ⟨#[]⟩, .int .i64 0]) (t := 70) fun o hg an hbox hb => ?_; have c := Aside0.mk (hbox); have GW6a1 := sE (w := w) hg; have GE6a1 := sE (w := w) hg; have r := neL a hg; have u := neG a hg; replace a := kM a hb; replace HB := bS bE hb; clear hb hbox hg; have hnb6a3 := u.out; have hnc6a3 := r.out; obtain ⟨ao, ap, aq, a9, aa, ab⟩ := bk3_ c; obtain ⟨z6a5_0, z6a5_1, z6a5_2, z6a5_3, z6a5_4, zf6a5_0, zf6a5_1, zf6a5_2, zf6a5_3, zf6a5_4⟩ := bk5_ a) | ((with_reducible refine gate_callee (f := 102) rfl ?_); refine gL _ Tryz.func102 _ ((lockkeeperref4_first.calls k X t3 (⟨#[63]⟩ : ByteArray) _ _ A13.out).mono ?_); rintro e w' ⟨rfl, ⟨nd, rfl⟩⟩; refine ⟨_, rfl, ?_⟩))
  first
  | clear av
    refine bodyPost_ret (results_ct rfl _ _ p 72 #[.string ⟨#[]⟩, .string ⟨#[]⟩, .int .i64 0, .string ⟨#[]⟩, .string ⟨#[]⟩] (0, 0) _ rfl (kT) Tryz.underlying72 rfl (by kernel_rfl)) rfl ?_; exact ⟨rE, bE⟩
  | clear M4_1
    have n0_ : Aside0 ((((an.setCell ⟨o, 0, none⟩ (.string O)).setCell ⟨o, 1, none⟩ (.string U)).setCell ⟨o, 2, none⟩ (.int .i64 W)).heap[p]? = some (.cells #[.string ⟨#[]⟩, .string ⟨#[]⟩, .int .i64 0, .string ⟨#[]⟩, .string ⟨#[]⟩] 72 (0, 0))) := ⟨kT⟩; have n1_ : Aside0 ((((an.setCell ⟨o, 0, none⟩ (.string O)).setCell ⟨o, 1, none⟩ (.string U)).setCell ⟨o, 2, none⟩ (.int .i64 W)).heap[o]? = some (.cells #[.string O, .string U, .int .i64 W] 70 (0, 0))) := ⟨kT⟩; have n2_ : Aside0 (Below w.heap.size w (((an.setCell ⟨o, 0, none⟩ (.string O)).setCell ⟨o, 1, none⟩ (.string U)).setCell ⟨o, 2, none⟩ (.int .i64 W))) := ⟨bE⟩; (try clear a); (try clear c); (try clear HB); generalize (((an.setCell ⟨o, 0, none⟩ (.string O)).setCell ⟨o, 1, none⟩ (.string U)).setCell ⟨o, 2, none⟩ (.int .i64 W)) = a1 at n0_ n1_ n2_ ⊢; have a := n0_; have c := n1_; have HB := n2_; clear n0_ n1_ n2_; (try (rw [drewN_self a1]; generalize hq_ : World.drewN a1 _ = a1; have n0_ : Aside0 (a1.heap[p]? = some (.cells #[.string ⟨#[]⟩, .string ⟨#[]⟩, .int .i64 0, .string ⟨#[]⟩, .string ⟨#[]⟩] 72 (0, 0))) := ⟨by rw [← hq_]; exact (kC a)⟩; have n1_ : Aside0 (a1.heap[o]? = some (.cells #[.string O, .string U, .int .i64 W] 70 (0, 0))) := ⟨by rw [← hq_]; exact (kC c)⟩; have n2_ : Aside0 (Below w.heap.size w a1) := ⟨by rw [← hq_]; exact bE⟩; clear a c HB hq_; have a := n0_; have c := n1_; have HB := n2_; clear n0_ n1_ n2_)); have n0_ := Aside0.mk (blk_drew a.out); have n1_ := Aside0.mk (blk_drew c.out); have n2_ := Aside0.mk (below_drew1 HB.out); clear a; clear c; clear HB; have a := n0_; have c := n1_; have HB := n2_; clear n0_ n1_ n2_; refine start_ (n := 11) (S := fun w' => w'.cell? ⟨o, 0, none⟩ = some (.string O) ∧ w'.cell? ⟨o, 1, none⟩ = some (.string U) ∧ w'.cell? ⟨o, 2, none⟩ = some (.int .i64 W)) (ds := []) (bz 11 0) (by kernel_rfl) rfl rfl (bkc3_ c) (fun hHeld => ?_); refine with_tabW lockkeeperref4_Parse.tab12 lockkeeperref4_Parse.bits12 (fun HT_ HW_ => ?_); generalize a1.drew = w26s1 at a c HB hHeld ⊢; refine qA 1 44 11 2 ?_; refine qA 2 45 11 6 ?_; refine qA 3 46 11 14 ?_; refine qA 4 47 11 30 ?_; refine qA 5 48 11 62 ?_; refine qA 6 49 11 126 ?_; refine qA 7 50 11 254 ?_; refine tA3 0 43 11 255 ?_; refine qA 8 51 11 511 ?_; refine oB 9 9 11 1023 fun K hK => ?_; refine box_step ?hg (N := 9) ?hd (cs := #[.string ⟨#[]⟩, .string ⟨#[]⟩, .int .i64 0, .string ⟨#[]⟩, .string ⟨#[]⟩]) (t := 72) ?hr ?_; (case hd => rfl); (case hg => rfl); (case hr => first | (go_simp; done) | (go_simp; rfl)); intro m hg a2 hbox hb; have b := Aside0.mk (hbox); have GW38s1 := sE (w := w) hg; have GE38s1 := sE (w := w) hg; have d := neL a hg; have g := neG a hg; have j := neL c hg; have l := neG c hg; replace a := kM a hb; replace c := kM c hb; replace HB := bS bE hb; clear hb hbox hg; refine hK.out _ _ (bkc3_ c) (fun hHeld => ?_); clear hK K; refine nA 9 ?_; refine one_ (i := 10) (N := none) (bz 11 2047) rfl rfl (one_of HT_.out (by kernel_rfl)) (by decide) (fun K hK => ?_); have hs44s1 : a2.cell? ⟨m, 0, none⟩ = some (.string ⟨#[]⟩) := (blk_cell b.out 0).trans rfl; have hfs44s1 := blk_frozen b.out 0; have hns44s1_0 := d.out; have hns44s1_1 := j.out; have hms44s1_0 := g.out; have hms44s1_1 := l.out; have hs50s1 : a2.cell? ⟨m, 1, none⟩ = some (.string ⟨#[]⟩) := (blk_cell b.out 1).trans rfl; have hfs50s1 := blk_frozen b.out 1; have hns50s1_0 := d.out; have hns50s1_1 := j.out; have hms50s1_0 := g.out; have hms50s1_1 := l.out; have hs56s1 : a2.cell? ⟨m, 2, none⟩ = some (.int .i64 0) := (blk_cell b.out 2).trans rfl; have hfs56s1 := blk_frozen b.out 2; have hns56s1_0 := d.out; have hns56s1_1 := j.out; have hms56s1_0 := g.out; have hms56s1_1 := l.out; have hs62s1 : a2.cell? ⟨m, 3, none⟩ = some (.string ⟨#[]⟩) := (blk_cell b.out 3).trans rfl; have hfs62s1 := blk_frozen b.out 3; have hns62s1_0 := d.out; have hns62s1_1 := j.out; have hms62s1_0 := g.out; have hms62s1_1 := l.out; have hs68s1 : a2.cell? ⟨m, 4, none⟩ = some (.string ⟨#[]⟩) := (blk_cell b.out 4).trans rfl; have hfs68s1 := blk_frozen b.out 4; have hns68s1_0 := d.out; have hns68s1_1 := j.out; have hms68s1_0 := g.out; have hms68s1_1 := l.out; refine skip_ (w1 := ?_) (by rfl) rfl ?_ ?_
    rotate_left
    ·go_simp
     rfl
    refine hK.out _ _ fE (fun hHeld => ?_); clear hK K; refine done_ (done_of HT_.out (by kernel_rfl)) ?_
    try go_wp2
    go_loopg [10] k (fun kq v82s1 w' => ∃ (L : Int) (v : ByteArray) (y : ByteArray) (z : Int) (A : ByteArray) (B : ByteArray), v82s1 = .int .i64 L ∧ Aside0 (lockkeeperref4_Parse.l0 kq L O U W O U W Z Y = some (r1, r2, r3, r4, r5, r6)) ∧ Aside0 (kq ≤ k) ∧ Aside0 (w'.heap[p]? = some (.cells #[.string v, .string y, .int .i64 z, .string A, .string B] 72 (0, 0))) ∧ Aside0 (w'.heap[o]? = some (.cells #[.string O, .string U, .int .i64 W] 70 (0, 0))) ∧ Aside0 (w'.heap[m]? = some (.cells #[.string O, .string U, .int .i64 W, .string Z, .string Y] 72 (0, 0))) ∧ Aside0 (Below w.heap.size w w'))
    case atStart => exact ⟨(0), ((⟨#[]⟩ : ByteArray)), ((⟨#[]⟩ : ByteArray)), (0), ((⟨#[]⟩ : ByteArray)), ((⟨#[]⟩ : ByteArray)), rS, H', ⟨Nat.le_refl _⟩, ⟨kT⟩, ⟨kT⟩, ⟨kT⟩, ⟨bE⟩⟩
    case round =>
     clear H'; (try clear c1); (try clear ar); (try clear au); (try clear c3b0); (try clear c3b1); (try clear c4b0); (try clear c4b1); (try clear aw); (try clear c9b0); (try clear c9b1); (try clear ax); (try clear ay); (try clear c12); (try clear ac); (try clear ad); (try clear az); (try clear aA); (try clear aB); (try clear aC); (try clear aD); (try clear aE); (try clear aF); (try clear aG); (try clear ao); (try clear ap); (try clear aq); (try clear a9); (try clear aa); (try clear ab); obtain ⟨L, v, y, z, A, B, rfl, HA, HK1, a, c, b, HB⟩ := hrel
     cases gk with
     | zero => exact absurd HA.out (by simp [lockkeeperref4_Parse.l0])
     | succ k1 =>
      have H := HA.out; clear HA
      simp only [lockkeeperref4_Parse.l0] at H
      revert H; refine iteDD_ (fun aH H => ?g5p) (fun aH H => ?g5n)
      case' g5p =>
       revert H; refine iteND_ fun c24b0 H => ?_; replace H := bd_ H; obtain ⟨t9, A25, H⟩ := H; revert H; refine iteB_ (fun c26 H => ?g6p) (fun c26 H => ?g6n)
       case' g6p =>
        subst c26; have H' := Aside0.mk H; clear H; have hnb27 := g.out; have hnc27 := d.out; have hnb28 := l.out; have hnc28 := j.out; obtain ⟨z29_0, z29_1, z29_2, z29_3, z29_4, zf29_0, zf29_1, zf29_2, zf29_3, zf29_4⟩ := bk5_ b; obtain ⟨p30, q30, hx30⟩ := btf_ (s := Z) (x := L) mE mE; have G8 := trivial; have M9_0 := trivial
       case' g6n =>
        subst c26
        simp only [Option.some.injEq, Prod.mk.injEq] at H
        obtain ⟨rfl, rfl, rfl, rfl, rfl, rfl⟩ := H; have hnb27 := g.out; have hnc27 := d.out; have hnb28 := l.out; have hnc28 := j.out; obtain ⟨z29_0, z29_1, z29_2, z29_3, z29_4, zf29_0, zf29_1, zf29_2, zf29_3, zf29_4⟩ := bk5_ b; obtain ⟨p30, q30, hx30⟩ := btf_ (s := Z) (x := L) mE mE; have G7 := trivial; have M9_1 := trivial
      case' g5n =>
       have H' := Aside0.mk H; clear H; have hnb24 := g.out; have hnc24 := d.out; have hnb25 := l.out; have hnc25 := j.out; obtain ⟨z26_0, z26_1, z26_2, z26_3, z26_4, zf26_0, zf26_1, zf26_2, zf26_3, zf26_4⟩ := bk5_ b; have M9_2 := trivial
      all_goals
       go_wp2_with (first | (have z_ := G7; clear z_; ((with_reducible refine gate_callee (f := 104) rfl ?_); refine gL _ Tryz.func104 _ ((lockkeeperref4_pathByte.calls k1 (bt Z L) _ _ A25.out).mono ?_); rintro e w' ⟨rfl, ⟨nd, rfl⟩⟩; refine ⟨_, rfl, ?_⟩; (try (rw [drewN_self wr]; generalize hq_ : World.drewN wr _ = wr; have n0_ : Aside0 (wr.heap[p]? = some (.cells #[.string v, .string y, .int .i64 z, .string A, .string B] 72 (0, 0))) := ⟨by rw [← hq_]; exact (kC a)⟩; have n1_ : Aside0 (wr.heap[o]? = some (.cells #[.string O, .string U, .int .i64 W] 70 (0, 0))) := ⟨by rw [← hq_]; exact (kC c)⟩; have n2_ : Aside0 (wr.heap[m]? = some (.cells #[.string O, .string U, .int .i64 W, .string Z, .string Y] 72 (0, 0))) := ⟨by rw [← hq_]; exact (kC b)⟩; have n3_ : Aside0 (Below w.heap.size w wr) := ⟨by rw [← hq_]; exact bE⟩; clear a c b HB hq_; have a := n0_; have c := n1_; have b := n2_; have HB := n3_; clear n0_ n1_ n2_ n3_)); have hnb8a1 := r.out; have hnc8a1 := u.out; obtain ⟨z8a2_0, z8a2_1, z8a2_2, z8a2_3, z8a2_4, zf8a2_0, zf8a2_1, zf8a2_2, zf8a2_3, zf8a2_4⟩ := bk5_ a)) | (have z_ := G8; clear z_; ((with_reducible refine gate_callee (f := 104) rfl ?_); refine gL _ Tryz.func104 _ ((lockkeeperref4_pathByte.calls k1 (bt Z L) _ _ A25.out).mono ?_); rintro e w' ⟨rfl, ⟨nd, rfl⟩⟩; refine ⟨_, rfl, ?_⟩)))
       first
       | clear M9_0
         go_roundg k1
         case measure => have := HK1.out; omega
         case rel => exact ⟨(wrap64 (L + 1)), (v), (y), (z), (A), (B), rS, H', ⟨by have := HK1.out; omega⟩, ⟨kC a⟩, ⟨kC c⟩, ⟨kC b⟩, ⟨bE⟩⟩
       | clear M9_1
         refine bodyPost_ret (results_ct rfl _ _ p 72 #[.string ⟨#[]⟩, .string ⟨#[]⟩, .int .i64 0, .string ⟨#[]⟩, .string ⟨#[]⟩] (0, 0) _ rfl (kT) Tryz.underlying72 rfl (by kernel_rfl)) rfl ?_; exact ⟨rE, bE⟩
       | clear M9_2
         go_loopg [11] k1 (fun kq v86s1 w' => ∃ (M : Int) (D : ByteArray) (E : ByteArray) (G : Int) (I : ByteArray) (J : ByteArray), v86s1 = .int .i64 M ∧ Aside0 (lockkeeperref4_Parse.l1 kq M O U W O U W Z Y = some (r1, r2, r3, r4, r5, r6)) ∧ Aside0 (kq ≤ k1) ∧ Aside0 (w'.heap[p]? = some (.cells #[.string D, .string E, .int .i64 G, .string I, .string J] 72 (0, 0))) ∧ Aside0 (w'.heap[o]? = some (.cells #[.string O, .string U, .int .i64 W] 70 (0, 0))) ∧ Aside0 (w'.heap[m]? = some (.cells #[.string O, .string U, .int .i64 W, .string Z, .string Y] 72 (0, 0))) ∧ Aside0 (Below w.heap.size w w'))
         case atStart => exact ⟨(1), (v), (y), (z), (A), (B), rS, H', ⟨Nat.le_refl _⟩, ⟨kC a⟩, ⟨kC c⟩, ⟨kC b⟩, ⟨bE⟩⟩
         case round =>
          clear H'; (try clear c1); (try clear ar); (try clear au); (try clear c3b0); (try clear c3b1); (try clear c4b0); (try clear c4b1); (try clear aw); (try clear c9b0); (try clear c9b1); (try clear ax); (try clear ay); (try clear c12); (try clear ac); (try clear ad); (try clear az); (try clear aA); (try clear aB); (try clear aC); (try clear aD); (try clear aE); (try clear aF); (try clear aG); (try clear aH); (try clear c26); (try clear ao); (try clear ap); (try clear aq); (try clear z26_0); (try clear z26_1); (try clear z26_2); (try clear z26_3); (try clear z26_4); (try clear a9); (try clear aa); (try clear ab); (try clear zf26_0); (try clear zf26_1); (try clear zf26_2); (try clear zf26_3); (try clear zf26_4); obtain ⟨M, D, E, G, I, J, rfl, HA, HK2, a, c, b, HB⟩ := hrel
          cases gk with
          | zero => exact absurd HA.out (by simp [lockkeeperref4_Parse.l1])
          | succ k2 =>
           have H := HA.out; clear HA
           simp only [lockkeeperref4_Parse.l1] at H
           revert H; refine iteDD_ (fun c38b0 H => ?g10p) (fun c38b0 H => ?g10n)
           case' g10p =>
            revert H; refine iteND_ fun c39b0 H => ?_; replace H := bd_ H; obtain ⟨t9, A40, H⟩ := H; revert H; refine iteB_ (fun c41 H => ?g11p) (fun c41 H => ?g11n)
            case' g11p =>
             subst c41; have H' := Aside0.mk H; clear H; have ae := g.out; have af := d.out; have ag := l.out; have ah := j.out; obtain ⟨ai, aj, ak, al, am, a4, a5, a6, a7, a8⟩ := bk5_ b; obtain ⟨p45, q45, hx45⟩ := btf_ (s := Y) (x := M) mE mE; have G14 := trivial; have M15_0 := trivial
            case' g11n =>
             subst c41
             simp only [Option.some.injEq, Prod.mk.injEq] at H
             obtain ⟨rfl, rfl, rfl, rfl, rfl, rfl⟩ := H; have ae := g.out; have af := d.out; have ag := l.out; have ah := j.out; obtain ⟨ai, aj, ak, al, am, a4, a5, a6, a7, a8⟩ := bk5_ b; obtain ⟨p45, q45, hx45⟩ := btf_ (s := Y) (x := M) mE mE; have G13 := trivial; have M15_1 := trivial
           case' g10n =>
            replace H := bd_ H; obtain ⟨t9, A39, H⟩ := H; replace H := bd_ H; obtain ⟨t10, A40, H⟩ := H; revert H; refine iteGG_ (fun c41b0 H => ?g12p) (fun c41b0 H => ?g12n)
            case' g12p =>
             simp only [Option.some.injEq, Prod.mk.injEq] at H
             obtain ⟨rfl, rfl, rfl, rfl, rfl, rfl⟩ := H; have ae := g.out; have af := d.out; have ag := l.out; have ah := j.out; obtain ⟨ai, aj, ak, al, am, a4, a5, a6, a7, a8⟩ := bk5_ b; have aI := trivial; have M16_0 := trivial
            case' g12n =>
             simp only [Option.some.injEq, Prod.mk.injEq] at H
             obtain ⟨rfl, rfl, rfl, rfl, rfl, rfl⟩ := H; have ae := g.out; have af := d.out; have ag := l.out; have ah := j.out; obtain ⟨ai, aj, ak, al, am, a4, a5, a6, a7, a8⟩ := bk5_ b; have aI := trivial; have M16_1 := trivial
           all_goals
            try go_wp2_with (first | (have z_ := G13; clear z_; ((with_reducible refine gate_callee (f := 105) rfl ?_); refine gL _ Tryz.func105 _ ((lockkeeperref4_queryByte.calls k2 (bt Y M) _ _ A40.out).mono ?_); rintro e w' ⟨rfl, ⟨nd, rfl⟩⟩; refine ⟨_, rfl, ?_⟩; (try (rw [drewN_self wr]; generalize hq_ : World.drewN wr _ = wr; have n0_ : Aside0 (wr.heap[p]? = some (.cells #[.string D, .string E, .int .i64 G, .string I, .string J] 72 (0, 0))) := ⟨by rw [← hq_]; exact (kC a)⟩; have n1_ : Aside0 (wr.heap[o]? = some (.cells #[.string O, .string U, .int .i64 W] 70 (0, 0))) := ⟨by rw [← hq_]; exact (kC c)⟩; have n2_ : Aside0 (wr.heap[m]? = some (.cells #[.string O, .string U, .int .i64 W, .string Z, .string Y] 72 (0, 0))) := ⟨by rw [← hq_]; exact (kC b)⟩; have n3_ : Aside0 (Below w.heap.size w wr) := ⟨by rw [← hq_]; exact bE⟩; clear a c b HB hq_; have a := n0_; have c := n1_; have b := n2_; have HB := n3_; clear n0_ n1_ n2_ n3_)); have hnb9a1 := r.out; have hnc9a1 := u.out; obtain ⟨z9a2_0, z9a2_1, z9a2_2, z9a2_3, z9a2_4, zf9a2_0, zf9a2_1, zf9a2_2, zf9a2_3, zf9a2_4⟩ := bk5_ a)) | (have z_ := G14; clear z_; ((with_reducible refine gate_callee (f := 105) rfl ?_); refine gL _ Tryz.func105 _ ((lockkeeperref4_queryByte.calls k2 (bt Y M) _ _ A40.out).mono ?_); rintro e w' ⟨rfl, ⟨nd, rfl⟩⟩; refine ⟨_, rfl, ?_⟩)) | ((with_reducible refine gate_callee (f := 106) rfl ?_); refine gL _ Tryz.func106 _ ((lockkeeperref4_Clean.calls k2 Z _ _ A39.out).mono ?_); rintro e a3 ⟨rfl, hb⟩; refine ⟨_, rfl, ?_⟩; replace a := kM a hb; replace c := kM c hb; replace b := kM b hb; replace HB := bS bE hb; (try clear hb); obtain ⟨z10a2_0, z10a2_1, z10a2_2, z10a2_3, z10a2_4, zf10a2_0, zf10a2_1, zf10a2_2, zf10a2_3, zf10a2_4⟩ := bk5_ b))
            first
            | clear M15_0
              go_roundg k2
              case measure => have := HK1.out; have := HK2.out; omega
              case rel => exact ⟨(wrap64 (M + 1)), (D), (E), (G), (I), (J), rS, H', ⟨by have := HK1.out; have := HK2.out; omega⟩, ⟨kC a⟩, ⟨kC c⟩, ⟨kC b⟩, ⟨bE⟩⟩
            | clear M15_1
              refine bodyPost_ret (results_ct rfl _ _ p 72 #[.string ⟨#[]⟩, .string ⟨#[]⟩, .int .i64 0, .string ⟨#[]⟩, .string ⟨#[]⟩] (0, 0) _ rfl (kT) Tryz.underlying72 rfl (by kernel_rfl)) rfl ?_; exact ⟨rE, bE⟩
            | clear aI
              have n0_ : Aside0 ((a3.setCell ⟨m, 3, none⟩ (.string t9)).heap[p]? = some (.cells #[.string D, .string E, .int .i64 G, .string I, .string J] 72 (0, 0))) := ⟨kT⟩; have n1_ : Aside0 ((a3.setCell ⟨m, 3, none⟩ (.string t9)).heap[o]? = some (.cells #[.string O, .string U, .int .i64 W] 70 (0, 0))) := ⟨kT⟩; have n2_ : Aside0 ((a3.setCell ⟨m, 3, none⟩ (.string t9)).heap[m]? = some (.cells #[.string O, .string U, .int .i64 W, .string t9, .string Y] 72 (0, 0))) := ⟨kT⟩; have n3_ : Aside0 (Below w.heap.size w (a3.setCell ⟨m, 3, none⟩ (.string t9))) := ⟨bE⟩; (try clear a); (try clear c); (try clear b); (try clear HB); generalize (a3.setCell ⟨m, 3, none⟩ (.string t9)) = w98s1 at n0_ n1_ n2_ n3_ ⊢; have a := n0_; have c := n1_; have b := n2_; have HB := n3_; clear n0_ n1_ n2_ n3_; have n0_ := Aside0.mk (blk_drew a.out); have n1_ := Aside0.mk (blk_drew c.out); have n2_ := Aside0.mk (blk_drew b.out); have n3_ := Aside0.mk (below_drew1 HB.out); clear a; clear c; clear b; clear HB; have a := n0_; have c := n1_; have b := n2_; have HB := n3_; clear n0_ n1_ n2_ n3_; refine start_ (n := 12) (S := fun w' => w'.cell? ⟨o, 0, none⟩ = some (.string O) ∧ w'.cell? ⟨o, 1, none⟩ = some (.string U) ∧ w'.cell? ⟨o, 2, none⟩ = some (.int .i64 W) ∧ w'.cell? ⟨m, 0, none⟩ = some (.string O) ∧ w'.cell? ⟨m, 1, none⟩ = some (.string U) ∧ w'.cell? ⟨m, 2, none⟩ = some (.int .i64 W) ∧ w'.cell? ⟨m, 3, none⟩ = some (.string t9) ∧ w'.cell? ⟨m, 4, none⟩ = some (.string Y)) (ds := []) (bz 12 0) (by kernel_rfl) rfl rfl (bkd3_ c (bkc5_ b)) (fun hHeld => ?_); refine with_tabW lockkeeperref4_Parse.tab24 lockkeeperref4_Parse.bits24 (fun HT_ HW_ => ?_); generalize w98s1.drew = w118s1 at a c b HB hHeld ⊢; refine qA 3 87 12 8 ?_; refine qA 7 91 12 136 ?_; refine tA8 0 84 12 137 ?_; refine tA8 4 88 12 153 ?_; refine qA 5 89 12 185 ?_; refine tA8 8 92 12 441 ?_; refine qA 9 93 12 953 ?_; refine oB 1 85 12 955 fun K hK => ?_; refine gS Tryz.func63 #[.agg #[.string O, .string U, .int .i64 W]] ?_
              with_reducible refine (lockkeeperref3_Show.calls k2 O U W t10 _ A40.out).mono ?_
              rintro e w129s1 ⟨rfl, hb⟩; refine ⟨_, rfl, ?_⟩; replace a := kM a hb; replace c := kM c hb; replace b := kM b hb; replace HB := bS bE hb; (try clear hb); refine hK.out _ _ (bkd3_ c (bkc5_ b)) (fun hHeld => ?_); clear hK K; refine nA 85 ?_; refine qA 2 86 12 959 ?_; refine qA 6 90 12 1023 ?_; refine qA 10 94 12 2047 ?_; refine qA 11 95 12 4095 ?_; refine done_ (done_of HT_.out (by kernel_rfl)) ?_
              first
              | clear M16_0
                have hnb140s1 := r.out; have hnc140s1 := u.out; obtain ⟨z142s1_0, z142s1_1, z142s1_2, z142s1_3, z142s1_4, zf142s1_0, zf142s1_1, zf142s1_2, zf142s1_3, zf142s1_4⟩ := bk5_ a
                try go_wp2
                refine bodyPost_ret (results_ct rfl _ _ p 72 #[.string ⟨#[]⟩, .string ⟨#[]⟩, .int .i64 0, .string ⟨#[]⟩, .string ⟨#[]⟩] (0, 0) _ rfl (kT) Tryz.underlying72 rfl (by kernel_rfl)) rfl ?_; exact ⟨rE, bE⟩
              | clear M16_1
                obtain ⟨z140s1_0, z140s1_1, z140s1_2, z140s1_3, z140s1_4, zf140s1_0, zf140s1_1, zf140s1_2, zf140s1_3, zf140s1_4⟩ := bk5_ b; have hnb141s1 := r.out; have hnc141s1 := u.out; obtain ⟨z143s1_0, z143s1_1, z143s1_2, z143s1_3, z143s1_4, zf143s1_0, zf143s1_1, zf143s1_2, zf143s1_3, zf143s1_4⟩ := bk5_ a
                try go_wp2
                refine bodyPost_ret (results_ct rfl _ _ p 72 #[.string O, .string U, .int .i64 W, .string t9, .string Y] (0, 0) _ rfl (kT) Tryz.underlying72 rfl (by kernel_rfl)) rfl ?_; exact ⟨rE, bE⟩
mutual
def lockkeeperref1_Rising.l0 : Nat → List ByteArray → List ByteArray → Int → Option (List ByteArray)
 | 0, _, _, _ => none
 | k + 1, a, b, c => if c < (a.length : Int) then (lockkeeperref1_Rising.l1 k a b c 0) else (some b)
def lockkeeperref1_Rising.l1 : Nat → List ByteArray → List ByteArray → Int → Int → Option (List ByteArray)
 | 0, _, _, _, _ => none
 | k + 1, e, g, d, a => if a < (g.length : Int) then (if 0 ≤ a then (if 0 ≤ d then (if d < (e.length : Int) then (if (Op.bytesLess ((rdOf ByteArray.empty g a).toList) ((rdOf ByteArray.empty e d).toList)) = true then (lockkeeperref1_Rising.l1 k e g d (wrap64 (a + 1))) else (if (rdOf ByteArray.empty g a).toList = (rdOf ByteArray.empty e d).toList then (lockkeeperref1_Rising.l0 k e g (wrap64 (d + 1))) else (if g.length < 8796093022208 then ((some (g ++ [(⟨#[]⟩ : ByteArray)] : List ByteArray)).bind fun b => (if 0 ≤ (wrap64 (a + 1)) then (if (wrap64 (a + 1)) ≤ (b.length : Int) then (if a ≤ (b.length : Int) then (if a < (b.length : Int) then (lockkeeperref1_Rising.l0 k e ((shiftL b (a : Int).toNat).set (a : Int).toNat (rdOf ByteArray.empty e d)) (wrap64 (d + 1))) else (none)) else (none)) else (none)) else (none))) else (none)))) else (none)) else (none)) else (none)) else (if g.length < 8796093022208 then ((some (g ++ [(⟨#[]⟩ : ByteArray)] : List ByteArray)).bind fun c => (if 0 ≤ (wrap64 (a + 1)) then (if (wrap64 (a + 1)) ≤ (c.length : Int) then (if 0 ≤ a then (if a ≤ (c.length : Int) then (if 0 ≤ d then (if d < (e.length : Int) then (if a < (c.length : Int) then (lockkeeperref1_Rising.l0 k e ((shiftL c (a : Int).toNat).set (a : Int).toNat (rdOf ByteArray.empty e d)) (wrap64 (d + 1))) else (none)) else (none)) else (none)) else (none)) else (none)) else (none)) else (none))) else (none))
end
def lockkeeperref1_Rising.f (k : Nat) (l0 : List ByteArray) : Option (List ByteArray) := lockkeeperref1_Rising.l0 k l0 ([] : List ByteArray) 0
theorem lockkeeperref1_Rising.mono_l : ∀ k, (∀ a b c, LeO (lockkeeperref1_Rising.l0 k a b c) (lockkeeperref1_Rising.l0 (k + 1) a b c)) ∧ (∀ a b c d, LeO (lockkeeperref1_Rising.l1 k a b c d) (lockkeeperref1_Rising.l1 (k + 1) a b c d))
 | 0 => ⟨fun _ _ _ r h => by simp [lockkeeperref1_Rising.l0] at h, fun _ _ _ _ r h => by simp [lockkeeperref1_Rising.l1] at h⟩
 | k + 1 => by
  obtain ⟨ih0, ih1⟩ := lockkeeperref1_Rising.mono_l k
  refine ⟨?_, ?_⟩
  ·intros
   unfold lockkeeperref1_Rising.l0
   exact moE
  ·intros
   unfold lockkeeperref1_Rising.l1
   exact moE
theorem lockkeeperref1_Rising.mono : ∀ a k, LeO (lockkeeperref1_Rising.f k a) (lockkeeperref1_Rising.f (k + 1) a) := by
 intro a k
 obtain ⟨ih0, ih1⟩ := lockkeeperref1_Rising.mono_l k
 unfold lockkeeperref1_Rising.f
 exact moE
def lockkeeperref1_Rising.T6 : Bool × List (List Nat × List Nat) := (true, [([], []), ([], []), ([1], [1]), ([0, 2], [0, 2]), ([3], [3]), ([4], [4]), ([4], [4]), ([5, 6, 4], [4, 5, 6]), ([7, 4], [4, 7]), ([4], [4]), ([4], [4]), ([9, 10, 4], [4, 9, 10]), ([11, 4], [4, 11]), ([8, 12, 4], [4, 8, 12]), ([4, 13], [4, 13])])
def lockkeeperref1_Rising.B6 : List Nat := [0, 0, 2, 7, 15, 31, 31, 127, 255, 31, 31, 1567, 3615, 8191, 16383]
theorem lockkeeperref1_Rising.tab6 : rtab .any (opsOf Tryz.f116 6) = lockkeeperref1_Rising.T6 := by kernel_rfl
theorem lockkeeperref1_Rising.bits6 : waitsOk lockkeeperref1_Rising.T6.2 lockkeeperref1_Rising.B6 = true := by kernel_rfl
def lockkeeperref1_Rising.T8 : Bool × List (List Nat × List Nat) := (true, [([], []), ([], []), ([1], [1]), ([0, 2], [0, 2]), ([3], [3]), ([4], [4]), ([4], [4]), ([5, 6, 4], [4, 5, 6]), ([7, 4], [4, 7]), ([4], [4]), ([4], [4]), ([9, 10, 4], [4, 9, 10]), ([11, 4], [4, 11]), ([8, 12, 4], [4, 8, 12]), ([4, 13], [4, 13])])
def lockkeeperref1_Rising.B8 : List Nat := [0, 0, 2, 7, 15, 31, 31, 127, 255, 31, 31, 1567, 3615, 8191, 16383]
theorem lockkeeperref1_Rising.tab8 : rtab .any (opsOf Tryz.f116 8) = lockkeeperref1_Rising.T8 := by kernel_rfl
theorem lockkeeperref1_Rising.bits8 : waitsOk lockkeeperref1_Rising.T8.2 lockkeeperref1_Rising.B8 = true := by kernel_rfl
def lockkeeperref1_Rising.T10 : Bool × List (List Nat × List Nat) := (true, [([], []), ([], []), ([1], [1]), ([0, 2], [0, 2]), ([], []), ([], []), ([4, 5], [4, 5]), ([3, 6], [3, 6])])
def lockkeeperref1_Rising.B10 : List Nat := [0, 0, 2, 7, 0, 0, 48, 127]
theorem lockkeeperref1_Rising.tab10 : rtab .any (opsOf Tryz.f116 10) = lockkeeperref1_Rising.T10 := by kernel_rfl
theorem lockkeeperref1_Rising.bits10 : waitsOk lockkeeperref1_Rising.T10.2 lockkeeperref1_Rising.B10 = true := by kernel_rfl
theorem lockkeeperref1_Rising.calls (k : Nat) (A0 : Option Addr) (c0 : Nat) (l0 r : List ByteArray) (w : World) (hr0 : Kd.C Kd.string w A0 l0.length l0) (hc0 : l0.length ≤ c0) (h : lockkeeperref1_Rising.f k l0 = some r) :
  Calls Tryz.prog 116 #[.slice A0 l0.length c0] w fun e w' => ∃ v0_ : Value, e = .returned (v0_) ∧ Kd.R Kd.string 9 w' w.heap.size (fun _ => True) v0_ r ∧ Below w.heap.size w w' := by
 have b1 := Aside0.mk hr0; have HC1 := Aside0.mk hc0; clear hr0 hc0; have HB := Aside0.mk (Below.refl w.heap.size w); have H : (lockkeeperref1_Rising.l0 k l0 ([] : List ByteArray) 0) = some r := h; clear h; have H' := Aside0.mk H; clear H; go_enter Tryz.func116, Tryz.ntmps116; go_wp2
 go_loopg [3, 4] k (fun kq v3s1 v3s2 w' => ∃ (q : List ByteArray) (d : Int), v3s2 = .int .i64 d ∧ Aside0 (lockkeeperref1_Rising.l0 kq l0 q d = some r) ∧ Aside0 (kq ≤ k) ∧ Aside0 (Kd.R Kd.string 9 w' w.heap.size (fun _ => True) v3s1 q) ∧ Aside0 (Below w.heap.size w w'))
 case atStart => exact ⟨(([] : List ByteArray)), (0), rS, H', ⟨Nat.le_refl _⟩, ⟨by first | exact Kd.R_nil _ _ _ _ _ | exact Kd.N_nil _ _ _ _ _ | exact Kd.V_nil _ _ _ _ _ | exact Kd.Q_nil _ _ _ _ _ | exact Kd.S_nil _ _ _ _ _⟩, ⟨bE⟩⟩
 case round =>
  clear H'; (try clear c2); obtain ⟨q, d, rfl, HA, a8, HO_3, HB⟩ := hrel
  cases gk with
  | zero => exact absurd HA.out (by simp [lockkeeperref1_Rising.l0])
  | succ k1 =>
   have H := HA.out; clear HA
   simp only [lockkeeperref1_Rising.l0] at H
   revert H; refine iteDD_ (fun c3b0 H => ?g1p) (fun c3b0 H => ?g1n)
   case' g1p =>
    have H' := Aside0.mk H; clear H; have M2_0 := trivial
   case' g1n =>
    obtain rfl := si_ H; have M2_1 := trivial
   all_goals
    go_wp2
    first
    | clear M2_0
      go_loopg [5] k1 (fun kq v7s1 w' => ∃ (a : Int), v7s1 = .int .i64 a ∧ Aside0 (lockkeeperref1_Rising.l1 kq l0 q d a = some r) ∧ Aside0 (kq ≤ k1) ∧ Aside0 (Kd.R Kd.string 9 w' w.heap.size (fun _ => True) u3 q) ∧ Aside0 (Below w.heap.size w w'))
      case atStart => exact ⟨(0), rS, H', ⟨Nat.le_refl _⟩, ⟨by (with_reducible repeat (first | apply Kd.R_alloc | apply Kd.R_drewN | apply Kd.R_drew)); exact HO_3.out⟩, ⟨bE⟩⟩
      case round =>
       clear H'; (try clear c2); (try clear c3b0); obtain ⟨a, rfl, HA, a9, HO_3, HB⟩ := hrel
       cases gk with
       | zero => exact absurd HA.out (by simp [lockkeeperref1_Rising.l1])
       | succ k2 =>
        have H := HA.out; clear HA
        simp only [lockkeeperref1_Rising.l1] at H
        revert H; refine iteDD_ (fun c4b0 H => ?g3p) (fun c4b0 H => ?g3n)
        case' g3p =>
         revert H; refine iteND_ fun c5b0 => iteND_ fun c6b0 => iteND_ fun c7b0 => itePP_ (fun c8 H => ?g4p) (fun c8 H => ?g4n)
         case' g4p =>
          have c8b0 : (Op.bytesLess ((rdOf ByteArray.empty q a).toList) ((rdOf ByteArray.empty l0 d).toList)) = true := c8; clear c8; have H' := Aside0.mk H; clear H; have aI := trivial; have M7_0 := trivial
         case' g4n =>
          have c8b0 : (Op.bytesLess ((rdOf ByteArray.empty q a).toList) ((rdOf ByteArray.empty l0 d).toList)) = false := by simpa using c8
          clear c8; revert H; refine iteEF_ (fun c9b0 c9b1 H => ?g5p) (fun c9 c9b0 c9b1 H => ?g5n)
          case' g5p =>
           have H' := Aside0.mk H; clear H; have aI := trivial; have M7_1 := trivial; have M8_0 := trivial
          case' g5n =>
           revert H; refine iteNA_ fun LMc10 H => ?_
           try replace H := bsm_ H
           generalize hy11 : (q ++ [(⟨#[]⟩ : ByteArray)]) = s at H; have Ny11 := Aside0.mk hy11.symm; clear hy11; generalize an : (wrap64 (a + 1)) = x at H; have hji12w := (i64_w _).trans an; revert H; refine iteNT_ fun c13b0 c13b1 => iteNT_ fun c14b0 c14b1 H => ?_
           try replace H := bsm_ H
           generalize hy15 : (s.drop ((x) : Int).toNat) = aJ at H; have Ny15 := Aside0.mk hy15.symm; clear hy15; have c16b0 := eq_true (of_decide_eq_true mE : 0 ≤ a); revert H; refine iteNT_ fun c17b0 c17b1 H => ?_
           try replace H := bsm_ H
           generalize aa : (s.drop (a : Int).toNat) = ab at H; have aA := Aside0.mk aa.symm; clear aa
           try replace H := bsm_ H
           generalize hy19 : (shiftL s (a : Int).toNat) = y19 at H; have Ny19 := Aside0.mk hy19.symm; clear hy19; revert H; refine iteND_ fun c20b0 H => ?_
           try replace H := bsm_ H
           generalize hy21 : (y19.set (a : Int).toNat (rdOf ByteArray.empty l0 d)) = y21 at H; have Ny21 := Aside0.mk hy21.symm; clear hy21; have H' := Aside0.mk H; clear H; have aI := trivial; have M7_1 := trivial; have M8_1 := trivial
        case' g3n =>
         revert H; refine iteNA_ fun LMc5 H => ?_
         try replace H := bsm_ H
         generalize hy6 : (q ++ [(⟨#[]⟩ : ByteArray)]) = J at H; have Ny6 := Aside0.mk hy6.symm; clear hy6; generalize aK : (wrap64 (a + 1)) = B at H; have hji7w := (i64_w _).trans aK; revert H; refine iteNT_ fun c8b0 c8b1 => iteNT_ fun c9b0 c9b1 H => ?_
         try replace H := bsm_ H
         generalize hy10 : (J.drop ((B) : Int).toNat) = aN at H; have Ny10 := Aside0.mk hy10.symm; clear hy10; revert H; refine iteNT_ fun c11b0 c11b1 => iteNT_ fun c12b0 c12b1 H => ?_
         try replace H := bsm_ H
         generalize hy13 : (J.drop (a : Int).toNat) = aQ at H; have Ny13 := Aside0.mk hy13.symm; clear hy13
         try replace H := bsm_ H
         generalize hy14 : (shiftL J (a : Int).toNat) = y14 at H; have Ny14 := Aside0.mk hy14.symm; clear hy14; revert H; refine iteND_ fun c15b0 => iteND_ fun c16b0 => iteND_ fun c17b0 H => ?_
         try replace H := bsm_ H
         generalize aa : (y14.set (a : Int).toNat (rdOf ByteArray.empty l0 d)) = ab at H; have aA := Aside0.mk aa.symm; clear aa; have H' := Aside0.mk H; clear H; have M6_1 := trivial
        all_goals
         try go_wp2
         have n0_ := Aside0.mk (Kd.R_drew HO_3.out); have n1_ := Aside0.mk (below_drew1 HB.out); clear HO_3; clear HB; have HO_3 := n0_; have HB := n1_; clear n0_ n1_; obtain ⟨Ao18s1, aC, aD⟩ := Kd.R_slice HO_3.out; (first | subst aD | (injection aD with f1_ f2_ f3_; have f4_ := f1_.symm; have f5_ := f3_.symm; clear f1_ f2_ f3_; subst f4_; subst f5_))
         first
         | clear aI
           have ao : 0 ≤ (a : Int) := of_decide_eq_true mE; have ap : a < (q.length : Int) := of_decide_eq_true mE; obtain ⟨L, e22s1, W⟩ := Kd.at_string (Kd.R_reads' HO_3.out).2.2 a ao ap
           cases e22s1
           replace ao := eq_true ao; replace ap := eq_true ap; have aq : 0 ≤ (d : Int) := of_decide_eq_true mE; have ar : d < (l0.length : Int) := of_decide_eq_true mE; obtain ⟨M, e28s1, z⟩ := Kd.at_string b1.out d aq ar; have ac := z
           cases e28s1
           replace z := (HB.out.cell (World.block_lt_of_cell? w _ z)).trans z; replace aq := eq_true aq; replace ar := eq_true ar; refine start_ (n := 15) (S := fun w' => w'.cell? (L.add (a).toNat) = some (.string (rdOf ByteArray.empty q a)) ∧ w'.cell? (M.add (d).toNat) = some (.string (rdOf ByteArray.empty l0 d))) (ds := []) (bz 15 0) (by kernel_rfl) rfl rfl ⟨W, ((HB.out.cell (World.block_lt_of_cell? w _ ac)).trans ac)⟩ (fun hHeld => ?_); refine with_tabW lockkeeperref1_Rising.tab6 lockkeeperref1_Rising.bits6 (fun HT_ HW_ => ?_); generalize wr.drew = w35s1 at HO_3 HB W z hHeld ⊢; refine qA 0 12 15 1 ?_; refine qA 1 13 15 3 ?_; refine qA 2 14 15 7 ?_; refine qA 3 15 15 15 ?_; refine qA 4 16 15 31 ?_; refine qA 5 17 15 63 ?_; refine qA 6 18 15 127 ?_; refine qA 7 19 15 255 ?_; refine qA 9 21 15 767 ?_; refine qA 10 22 15 1791 ?_; refine qA 11 23 15 3839 ?_; refine tA2 8 20 15 4095 ?_; refine tA2 12 24 15 8191 ?_; refine qA 13 25 15 16383 ?_; refine qA 14 26 15 32767 ?_; refine done_ (done_of HT_.out (by kernel_rfl)) ?_
           try go_wp2
           first
           | clear M7_0
             go_roundg k2
             case measure => have := a8.out; have := a9.out; omega
             case rel => exact ⟨(wrap64 (a + 1)), rS, H', ⟨by have := a8.out; have := a9.out; omega⟩, ⟨by (with_reducible repeat (first | apply Kd.R_alloc | apply Kd.R_drewN | apply Kd.R_drew)); exact HO_3.out⟩, ⟨bE⟩⟩
           | clear M7_1
             have n0_ := Aside0.mk (Kd.R_drew HO_3.out); have n1_ := Aside0.mk (below_drew1 HB.out); clear HO_3; clear HB; have HO_3 := n0_; have HB := n1_; clear n0_ n1_; have au : 0 ≤ (a : Int) := of_decide_eq_true mE; have av : a < (q.length : Int) := of_decide_eq_true mE; obtain ⟨ad60s1, e62s1, X⟩ := Kd.at_string (Kd.R_reads' HO_3.out).2.2 a au av; obtain rfl : L = ad60s1 := (by injection e62s1); replace au := eq_true au; replace av := eq_true av; have aw : 0 ≤ (d : Int) := of_decide_eq_true mE; have ax : d < (l0.length : Int) := of_decide_eq_true mE; obtain ⟨ad66s1, e68s1, A⟩ := Kd.at_string b1.out d aw ax; have ad := A; obtain rfl : M = ad66s1 := (by injection e68s1); replace A := (HB.out.cell (World.block_lt_of_cell? w _ A)).trans A; replace aw := eq_true aw; replace ax := eq_true ax; refine start_ (n := 15) (S := fun w' => w'.cell? (L.add (a).toNat) = some (.string (rdOf ByteArray.empty q a)) ∧ w'.cell? (M.add (d).toNat) = some (.string (rdOf ByteArray.empty l0 d))) (ds := []) (bz 15 0) (by kernel_rfl) rfl rfl ⟨X, ((HB.out.cell (World.block_lt_of_cell? w _ ad)).trans ad)⟩ (fun hHeld => ?_); refine with_tabW lockkeeperref1_Rising.tab8 lockkeeperref1_Rising.bits8 (fun HT_ HW_ => ?_); generalize w35s1.drew = w75s1 at HO_3 HB X A hHeld ⊢; refine qA 0 29 15 1 ?_; refine qA 1 30 15 3 ?_; refine qA 2 31 15 7 ?_; refine qA 3 32 15 15 ?_; refine qA 4 33 15 31 ?_; refine qA 5 34 15 63 ?_; refine qA 6 35 15 127 ?_; refine qA 7 36 15 255 ?_; refine qA 9 38 15 767 ?_; refine qA 10 39 15 1791 ?_; refine qA 11 40 15 3839 ?_; refine tA2 8 37 15 4095 ?_; refine tA2 12 41 15 8191 ?_; refine qA 13 42 15 16383 ?_; refine qA 14 43 15 32767 ?_; refine done_ (done_of HT_.out (by kernel_rfl)) ?_
             try go_wp2_with (first | ((with_reducible refine gate_builtin (b := .append) (xs := #[.tmp 44, .tmp 45]) rfl ?_); at_builtin; refine Kd.R_append Kd.string (w0 := w) w.heap.size rfl (.tmp 44) (.tmp 45) 39 9 (.string ⟨#[]⟩) 16 rfl Tryz.underlying39 info9 rfl (by decide) (by omega) (.slice (some L) q.length aC) q (⟨#[]⟩ : ByteArray) [.string ⟨#[]⟩] (fun _ => True) (fun _ => False) rfl rfl ?aP (fun _ hk => hk.elim) ?aF ?aO ?aB ?aS ?aL ?_; (case aP => exact rfl); (case aB => exact bE); (case aF => exact (fun _ _ => trivial)); (case aO => exact (rK HO_3.out)); (case aS => exact (below_size bE)); (case aL => have := LMc10.out; omega); intro v1a1 w1a2 ho hb hg hat; rw [← Ny11.out] at ho; have n0_ := Aside0.mk (hb); have n1_ := Aside0.mk (ho); clear HB; clear HO_3; have HB := n0_; have i := n1_; clear n0_ n1_; clear ho hb hg hat))
             first
             | clear M8_0
               go_roundg k2
               case measure => have := a8.out; have := a9.out; omega
               case rel => exact ⟨(q), (wrap64 (d + 1)), rS, H', ⟨by have := a8.out; have := a9.out; omega⟩, ⟨by (with_reducible repeat (first | apply Kd.R_alloc | apply Kd.R_drewN | apply Kd.R_drew)); exact HO_3.out⟩, ⟨bE⟩⟩
             | clear M8_1
               have n0_ := Aside0.mk (Kd.R_drew i.out); have n1_ := Aside0.mk (below_drew1 HB.out); clear i; clear HB; have i := n0_; have HB := n1_; clear n0_ n1_; obtain ⟨u, l, ae⟩ := Kd.R_slice i.out; (first | subst ae | (injection ae with f1_ f2_ f3_; have f4_ := f1_.symm; have f5_ := f3_.symm; clear f1_ f2_ f3_; subst f4_; subst f5_)); have Y : ((x) : Int) ≤ ((s.length : Int) : Int) := of_decide_eq_true mE; obtain ⟨i103s1, hi103s1, _, hsz103s2, _⟩ := info_parts info9; have hroom27 : s.length ≤ l := (Kd.R_reads' i.out).2.1; have hC27 : Kd.C Kd.string _ u s.length s := (Kd.R_reads' i.out).2.2; have q106s1 : (0 : Int) ≤ ((x) : Int) := of_decide_eq_true mE; have hcut103s2 := cut_from (P := Tryz.prog) 39 9 .i64 Tryz.underlying39 hi103s1 1 hsz103s2 u s.length l (x) q106s1 Y; have af := Kd.C_drop (m := ((x) : Int).toNat) (c := l) hC27 (by omega) hroom27; obtain ⟨A102s1, hA27⟩ : ∃ A2, A2 = (if l = ((x) : Int).toNat then u else (u : Option Addr).map (·.add (((x) : Int).toNat * 1))) := ⟨_, rfl⟩; obtain ⟨c102s1, aR⟩ : ∃ c2, c2 = l - ((x) : Int).toNat := ⟨_, rfl⟩; have G : aJ.length = s.length - ((x) : Int).toNat := (by rw [Ny15.out, List.length_drop] <;> omega)
               rw [show (s).drop ((x) : Int).toNat = aJ from Ny15.out.symm] at af
               replace af : Kd.C Kd.string _ A102s1 aJ.length aJ := (by rw [hA27]; exact af)
               rw [← G, ← hA27, ← aR] at hcut103s2
               have aT := Aside0.mk af; have HC115s1 := Aside0.mk (show aJ.length ≤ c102s1 from by rw [G, aR]; exact Nat.sub_le_sub_right hroom27 _); clear af hC27 hroom27 hi103s1 hsz103s2 aR; have KY27 := Aside0.mk G; have KA27 := Aside0.mk hA27; clear G hA27; have KL27 := Aside0.mk (show ((x) : Int).toNat ≤ s.length from by omega); replace Y := eq_true Y; have Z : (a : Int) ≤ ((s.length : Int) : Int) := of_decide_eq_true mE; obtain ⟨i124s1, hi124s1, _, hsz124s2, _⟩ := info_parts info9; have hroom29 : s.length ≤ l := (Kd.R_reads' i.out).2.1; have hC29 : Kd.C Kd.string _ u s.length s := (Kd.R_reads' i.out).2.2; have q127s1 : (0 : Int) ≤ (a : Int) := of_decide_eq_true mE; have hcut124s2 := cut_from (P := Tryz.prog) 39 9 .i64 Tryz.underlying39 hi124s1 1 hsz124s2 u s.length l a q127s1 Z; have ag := Kd.C_drop (m := (a : Int).toNat) (c := l) hC29 (by omega) hroom29; obtain ⟨A123s1, hA29⟩ : ∃ A2, A2 = (if l = (a : Int).toNat then u else (u : Option Addr).map (·.add ((a : Int).toNat * 1))) := ⟨_, rfl⟩; obtain ⟨c123s1, aU⟩ : ∃ c2, c2 = l - (a : Int).toNat := ⟨_, rfl⟩; have I : ab.length = s.length - (a : Int).toNat := (by rw [aA.out, List.length_drop] <;> omega)
               rw [show (s).drop (a : Int).toNat = ab from aA.out.symm] at ag
               replace ag : Kd.C Kd.string _ A123s1 ab.length ab := (by rw [hA29]; exact ag)
               rw [← I, ← hA29, ← aU] at hcut124s2
               have aV := Aside0.mk ag; have HC136s1 := Aside0.mk (show ab.length ≤ c123s1 from by rw [I, aU]; exact Nat.sub_le_sub_right hroom29 _); clear ag hC29 hroom29 hi124s1 hsz124s2 aU; have KY29 := Aside0.mk I; have KA29 := Aside0.mk hA29; clear I hA29; have KL29 := Aside0.mk (show (a : Int).toNat ≤ s.length from by omega); replace Z := eq_true Z; obtain ⟨go144s1, co144s1, ah, ai, gl31, cl31, HG31⟩ := Kd.R_form i.out (by have hj_ : 0 ≤ (a : Int) := of_decide_eq_true mE; have hl_ : (x : Int) ≤ (s.length : Int) := of_decide_eq_true mE; have hh_ : (a : Int) ≤ (s.length : Int) := of_decide_eq_true mE; rw [← an] at hl_; unfold wrap64 at hl_; omega); (first | cases ah | (injection ah with ea_ en_ ec_; (first | subst ea_ | (injection ea_ with ea_; subst ea_)); subst ec_; clear en_)); have GB31 := Aside0.mk ai; have GG31 := Aside0.mk HG31; clear ai gl31 HG31; refine start_ (n := 8) (S := fun w' => True) (ds := []) (bz 8 0) (by kernel_rfl) rfl rfl trivial (fun hHeld => ?_); refine with_tabW lockkeeperref1_Rising.tab10 lockkeeperref1_Rising.bits10 (fun HT_ HW_ => ?_); generalize w1a2.drew = w150s1 at i HB GG31 aT aV hHeld ⊢; refine qA 0 47 8 1 ?_; refine qA 1 48 8 3 ?_; refine qA 2 49 8 7 ?_; refine qA 3 50 8 15 ?_; refine qA 4 51 8 31 ?_; refine qA 5 52 8 63 ?_; refine qA 6 53 8 127 ?_; refine oB 7 54 8 255 fun K hK => ?_; have hj_ : 0 ≤ (a : Int) := of_decide_eq_true mE; have hl_ : (x : Int) ≤ (s.length : Int) := of_decide_eq_true mE; have hh_ : (a : Int) ≤ (s.length : Int) := of_decide_eq_true mE; have hb_ := (Kd.R_reads' i.out).2.2.2.1; have h0_ : (0 : Int) ≤ (x : Int) := of_decide_eq_true mE; have hk_ : (x : Int).toNat = (a : Int).toNat + 1 := (by have hw_ : (x : Int) = a + 1 := (by have h00_ := h0_; rw [← an] at h00_ ⊢; unfold wrap64 at h00_ ⊢; omega); rw [hw_]; omega); have hlt_ : (a : Int).toNat < s.length := (by omega); refine R_shift_step (w0 := w) w.heap.size (by rfl) (.tmp 50) (.tmp 53) 39 9 rfl Tryz.underlying39 (by kernel_rfl) (g := go144s1) (n := s.length) (c := l) (k := (a : Int).toNat) rfl rfl ?hA1 ?hA2 ?hm1 ?hm2 (rK i.out) ?hk bE (below_size bE) ?_; (case hA1 => have ha_ := KA27.out; rw [hk_] at ha_; exact ha_); (case hA2 => exact KA29.out); (case hm1 => have ha_ := KY27.out; rw [hk_] at ha_; exact ha_); (case hm2 => exact KY29.out); (case hk => exact hlt_); intro aE ho hb hg; clear hj_ hl_ hh_ hb_ hk_ h0_ hlt_
               rw [← Ny19.out] at ho
               have n0_ := Aside0.mk (ho); have n1_ := Aside0.mk (hb); clear i; clear HB; have i := n0_; have HB := n1_; clear n0_ n1_; clear ho hb hg; refine hK.out _ _ trivial (fun hHeld => ?_); clear hK K; refine nA 54 ?_; refine done_ (done_of HT_.out (by kernel_rfl)) ?_; have a0 : 0 ≤ (d : Int) := of_decide_eq_true mE; have a1 : d < (l0.length : Int) := of_decide_eq_true mE; obtain ⟨aW, e189s1, D⟩ := Kd.at_string b1.out d a0 a1; obtain rfl : M = aW := (by injection e189s1); replace D := (HB.out.cell (World.block_lt_of_cell? w _ D)).trans D; replace a0 := eq_true a0; replace a1 := eq_true a1; have a2 : 0 ≤ (a : Int) := of_decide_eq_true mE; have a3 : (a : Int) < ((s.length : Int) : Int) := of_decide_eq_true mE; obtain ⟨hx194s1_0, hf21_0⟩ := Kd.R_celln (⟨#[]⟩ : ByteArray) i.out (a : Int) a2 a3; replace a2 := eq_true a2; replace a3 := eq_true a3; obtain ⟨hy199s1_, hz32_⟩ := Kd.R_celln (⟨#[]⟩ : ByteArray) i.out (a : Int) (of_decide_eq_true mE) (of_decide_eq_true mE); have HP32 := Kd.R_putg i.out (a : Int) (rdOf ByteArray.empty l0 d)
               try go_wp2_with (first | ((with_reducible refine gate_store (t := 9) (p := 61) rfl ?_); refine store_event (t := 9) (p := 61) (v := ?vo_w33) (w1 := (aE.setCell ⟨go144s1, (a : Int).toNat, none⟩ (.string (rdOf ByteArray.empty l0 d)))) ?hg ?ho ?hn ?hr ?_; (case ho => rfl); (case hg => rfl); (case hn => rfl); (case hr => first | (go_simp; done) | (go_simp; rfl)); intro aX hw; have hg : aE.grownBy aX (some go144s1) := (by rw [hw]; exact HP32.2); have hp_ : Kd.R Kd.string 9 aX w.heap.size (fun _ => True) (.slice (some ⟨go144s1, 0, none⟩) s.length l) y21 := (by rw [hw, Ny21.out]; exact HP32.1); clear HP32; have n0_ := Aside0.mk (hp_); have n1_ := Aside0.mk ((by rw [hw]; exact below_set (HB.out) GB31.out : Below w.heap.size w aX)); clear i; clear HB; have i := n0_; have HB := n1_; clear n0_ n1_; clear hg hw hp_))
               go_roundg k2
               case measure => have := a8.out; have := a9.out; omega
               case rel => exact ⟨(y21), (wrap64 (d + 1)), rS, H', ⟨by have := a8.out; have := a9.out; omega⟩, ⟨by (with_reducible repeat (first | apply Kd.R_alloc | apply Kd.R_drewN | apply Kd.R_drew)); exact i.out⟩, ⟨bE⟩⟩
         | clear M6_1
           refine start_ (n := 15) (S := fun w' => True) (ds := []) (bz 15 0) (by kernel_rfl) rfl rfl trivial (fun hHeld => ?_); refine with_tabW lockkeeperref1_Rising.tab6 lockkeeperref1_Rising.bits6 (fun HT_ HW_ => ?_); generalize wr.drew = w21s1 at HO_3 HB hHeld ⊢; refine qA 0 12 15 1 ?_; refine qA 1 13 15 3 ?_; refine qA 2 14 15 7 ?_; refine qA 3 15 15 15 ?_; refine qA 4 16 15 31 ?_; refine qU 5 17 15 63 ?_; refine qU 6 18 15 127 ?_; refine qU 7 19 15 255 ?_; refine qU 8 20 15 511 ?_; refine qU 9 21 15 1023 ?_; refine qU 10 22 15 2047 ?_; refine qU 11 23 15 4095 ?_; refine qU 12 24 15 8191 ?_; refine qU 13 25 15 16383 ?_; refine qA 14 26 15 32767 ?_; refine done_ (done_of HT_.out (by kernel_rfl)) ?_
           try go_wp2
           have n0_ := Aside0.mk (Kd.R_drew HO_3.out); have n1_ := Aside0.mk (below_drew1 HB.out); clear HO_3; clear HB; have HO_3 := n0_; have HB := n1_; clear n0_ n1_; refine start_ (n := 15) (S := fun w' => True) (ds := []) (bz 15 0) (by kernel_rfl) rfl rfl trivial (fun hHeld => ?_); refine with_tabW lockkeeperref1_Rising.tab8 lockkeeperref1_Rising.bits8 (fun HT_ HW_ => ?_); generalize w21s1.drew = w47s1 at HO_3 HB hHeld ⊢; refine qA 0 29 15 1 ?_; refine qA 1 30 15 3 ?_; refine qA 2 31 15 7 ?_; refine qA 3 32 15 15 ?_; refine qA 4 33 15 31 ?_; refine qU 5 34 15 63 ?_; refine qU 6 35 15 127 ?_; refine qU 7 36 15 255 ?_; refine qU 8 37 15 511 ?_; refine qU 9 38 15 1023 ?_; refine qU 10 39 15 2047 ?_; refine qU 11 40 15 4095 ?_; refine qU 12 41 15 8191 ?_; refine qU 13 42 15 16383 ?_; refine qA 14 43 15 32767 ?_; refine done_ (done_of HT_.out (by kernel_rfl)) ?_
           try go_wp2_with (first | ((with_reducible refine gate_builtin (b := .append) (xs := #[.tmp 44, .tmp 45]) rfl ?_); at_builtin; refine Kd.R_append Kd.string (w0 := w) w.heap.size rfl (.tmp 44) (.tmp 45) 39 9 (.string ⟨#[]⟩) 16 rfl Tryz.underlying39 info9 rfl (by decide) (by omega) (.slice Ao18s1 q.length aC) q (⟨#[]⟩ : ByteArray) [.string ⟨#[]⟩] (fun _ => True) (fun _ => False) rfl rfl ?aP (fun _ hk => hk.elim) ?aF ?aO ?aB ?aS ?aL ?_; (case aP => exact rfl); (case aB => exact bE); (case aF => exact (fun _ _ => trivial)); (case aO => exact (rK HO_3.out)); (case aS => exact (below_size bE)); (case aL => have := LMc5.out; omega); intro v3a1 w3a2 ho hb hg hat; rw [← Ny6.out] at ho; have n0_ := Aside0.mk (hb); have n1_ := Aside0.mk (ho); clear HB; clear HO_3; have HB := n0_; have j := n1_; clear n0_ n1_; clear ho hb hg hat))
           have n0_ := Aside0.mk (Kd.R_drew j.out); have n1_ := Aside0.mk (below_drew1 HB.out); clear j; clear HB; have j := n0_; have HB := n1_; clear n0_ n1_; obtain ⟨y, o, aG⟩ := Kd.R_slice j.out; (first | subst aG | (injection aG with f1_ f2_ f3_; have f4_ := f1_.symm; have f5_ := f3_.symm; clear f1_ f2_ f3_; subst f4_; subst f5_)); have ay : ((B) : Int) ≤ ((J.length : Int) : Int) := of_decide_eq_true mE; obtain ⟨i75s1, hi75s1, _, hsz75s2, _⟩ := info_parts info9; have hroom49 : J.length ≤ o := (Kd.R_reads' j.out).2.1; have hC49 : Kd.C Kd.string _ y J.length J := (Kd.R_reads' j.out).2.2; have q78s1 : (0 : Int) ≤ ((B) : Int) := of_decide_eq_true mE; have hcut75s2 := cut_from (P := Tryz.prog) 39 9 .i64 Tryz.underlying39 hi75s1 1 hsz75s2 y J.length o (B) q78s1 ay; have aj := Kd.C_drop (m := ((B) : Int).toNat) (c := o) hC49 (by omega) hroom49; obtain ⟨A74s1, hA49⟩ : ∃ A2, A2 = (if o = ((B) : Int).toNat then y else (y : Option Addr).map (·.add (((B) : Int).toNat * 1))) := ⟨_, rfl⟩; obtain ⟨c74s1, aY⟩ : ∃ c2, c2 = o - ((B) : Int).toNat := ⟨_, rfl⟩; have O : aN.length = J.length - ((B) : Int).toNat := (by rw [Ny10.out, List.length_drop] <;> omega)
           rw [show (J).drop ((B) : Int).toNat = aN from Ny10.out.symm] at aj
           replace aj : Kd.C Kd.string _ A74s1 aN.length aN := (by rw [hA49]; exact aj)
           rw [← O, ← hA49, ← aY] at hcut75s2
           have HR87s1 := Aside0.mk aj; have HC87s1 := Aside0.mk (show aN.length ≤ c74s1 from by rw [O, aY]; exact Nat.sub_le_sub_right hroom49 _); clear aj hC49 hroom49 hi75s1 hsz75s2 aY; have KY49 := Aside0.mk O; have KA49 := Aside0.mk hA49; clear O hA49; have KL49 := Aside0.mk (show ((B) : Int).toNat ≤ J.length from by omega); replace ay := eq_true ay; have az : (a : Int) ≤ ((J.length : Int) : Int) := of_decide_eq_true mE; obtain ⟨i96s1, hi96s1, _, hsz96s2, _⟩ := info_parts info9; have hroom51 : J.length ≤ o := (Kd.R_reads' j.out).2.1; have hC51 : Kd.C Kd.string _ y J.length J := (Kd.R_reads' j.out).2.2; have q99s1 : (0 : Int) ≤ (a : Int) := of_decide_eq_true mE; have hcut96s2 := cut_from (P := Tryz.prog) 39 9 .i64 Tryz.underlying39 hi96s1 1 hsz96s2 y J.length o a q99s1 az; have ak := Kd.C_drop (m := (a : Int).toNat) (c := o) hC51 (by omega) hroom51; obtain ⟨A95s1, hA51⟩ : ∃ A2, A2 = (if o = (a : Int).toNat then y else (y : Option Addr).map (·.add ((a : Int).toNat * 1))) := ⟨_, rfl⟩; obtain ⟨c95s1, aZ⟩ : ∃ c2, c2 = o - (a : Int).toNat := ⟨_, rfl⟩; have U : aQ.length = J.length - (a : Int).toNat := (by rw [Ny13.out, List.length_drop] <;> omega)
           rw [show (J).drop (a : Int).toNat = aQ from Ny13.out.symm] at ak
           replace ak : Kd.C Kd.string _ A95s1 aQ.length aQ := (by rw [hA51]; exact ak)
           rw [← U, ← hA51, ← aZ] at hcut96s2
           have a_ := Aside0.mk ak; have HC108s1 := Aside0.mk (show aQ.length ≤ c95s1 from by rw [U, aZ]; exact Nat.sub_le_sub_right hroom51 _); clear ak hC51 hroom51 hi96s1 hsz96s2 aZ; have KY51 := Aside0.mk U; have KA51 := Aside0.mk hA51; clear U hA51; have KL51 := Aside0.mk (show (a : Int).toNat ≤ J.length from by omega); replace az := eq_true az; obtain ⟨go116s1, co116s1, al, am, gl53, cl53, HG53⟩ := Kd.R_form j.out (by have hj_ : 0 ≤ (a : Int) := of_decide_eq_true mE; have hl_ : (B : Int) ≤ (J.length : Int) := of_decide_eq_true mE; have hh_ : (a : Int) ≤ (J.length : Int) := of_decide_eq_true mE; rw [← aK] at hl_; unfold wrap64 at hl_; omega); (first | cases al | (injection al with ea_ en_ ec_; (first | subst ea_ | (injection ea_ with ea_; subst ea_)); subst ec_; clear en_)); have GB53 := Aside0.mk am; have GG53 := Aside0.mk HG53; clear am gl53 HG53; refine start_ (n := 8) (S := fun w' => True) (ds := []) (bz 8 0) (by kernel_rfl) rfl rfl trivial (fun hHeld => ?_); refine with_tabW lockkeeperref1_Rising.tab10 lockkeeperref1_Rising.bits10 (fun HT_ HW_ => ?_); generalize w3a2.drew = w122s1 at j HB GG53 HR87s1 a_ hHeld ⊢; refine qA 0 47 8 1 ?_; refine qA 1 48 8 3 ?_; refine qA 2 49 8 7 ?_; refine qA 3 50 8 15 ?_; refine qA 4 51 8 31 ?_; refine qA 5 52 8 63 ?_; refine qA 6 53 8 127 ?_; refine oB 7 54 8 255 fun K hK => ?_; have hj_ : 0 ≤ (a : Int) := of_decide_eq_true mE; have hl_ : (B : Int) ≤ (J.length : Int) := of_decide_eq_true mE; have hh_ : (a : Int) ≤ (J.length : Int) := of_decide_eq_true mE; have hb_ := (Kd.R_reads' j.out).2.2.2.1; have h0_ : (0 : Int) ≤ (B : Int) := of_decide_eq_true mE; have hk_ : (B : Int).toNat = (a : Int).toNat + 1 := (by have hw_ : (B : Int) = a + 1 := (by have h00_ := h0_; rw [← aK] at h00_ ⊢; unfold wrap64 at h00_ ⊢; omega); rw [hw_]; omega); have hlt_ : (a : Int).toNat < J.length := (by omega); refine R_shift_step (w0 := w) w.heap.size (by rfl) (.tmp 50) (.tmp 53) 39 9 rfl Tryz.underlying39 (by kernel_rfl) (g := go116s1) (n := J.length) (c := o) (k := (a : Int).toNat) rfl rfl ?hA1 ?hA2 ?hm1 ?hm2 (rK j.out) ?hk bE (below_size bE) ?_; (case hA1 => have ha_ := KA49.out; rw [hk_] at ha_; exact ha_); (case hA2 => exact KA51.out); (case hm1 => have ha_ := KY49.out; rw [hk_] at ha_; exact ha_); (case hm2 => exact KY51.out); (case hk => exact hlt_); intro aH ho hb hg; clear hj_ hl_ hh_ hb_ hk_ h0_ hlt_
           rw [← Ny14.out] at ho
           have n0_ := Aside0.mk (ho); have n1_ := Aside0.mk (hb); clear j; clear HB; have j := n0_; have HB := n1_; clear n0_ n1_; clear ho hb hg; refine hK.out _ _ trivial (fun hHeld => ?_); clear hK K; refine nA 54 ?_; refine done_ (done_of HT_.out (by kernel_rfl)) ?_; have a4 : 0 ≤ (d : Int) := of_decide_eq_true mE; have a5 : d < (l0.length : Int) := of_decide_eq_true mE; obtain ⟨ad159s1, e161s1, E⟩ := Kd.at_string b1.out d a4 a5
           cases e161s1
           replace E := (HB.out.cell (World.block_lt_of_cell? w _ E)).trans E; replace a4 := eq_true a4; replace a5 := eq_true a5; have a6 : 0 ≤ (a : Int) := of_decide_eq_true mE; have a7 : (a : Int) < ((J.length : Int) : Int) := of_decide_eq_true mE; obtain ⟨hx166s1_0, hf43_0⟩ := Kd.R_celln (⟨#[]⟩ : ByteArray) j.out (a : Int) a6 a7; replace a6 := eq_true a6; replace a7 := eq_true a7; obtain ⟨hy171s1_, hz54_⟩ := Kd.R_celln (⟨#[]⟩ : ByteArray) j.out (a : Int) (of_decide_eq_true mE) (of_decide_eq_true mE); have HP54 := Kd.R_putg j.out (a : Int) (rdOf ByteArray.empty l0 d)
           try go_wp2_with (first | ((with_reducible refine gate_store (t := 9) (p := 61) rfl ?_); refine store_event (t := 9) (p := 61) (v := ?vo_w55) (w1 := (aH.setCell ⟨go116s1, (a : Int).toNat, none⟩ (.string (rdOf ByteArray.empty l0 d)))) ?hg ?ho ?hn ?hr ?_; (case ho => rfl); (case hg => rfl); (case hn => rfl); (case hr => first | (go_simp; done) | (go_simp; rfl)); intro b0 hw; have hg : aH.grownBy b0 (some go116s1) := (by rw [hw]; exact HP54.2); have hp_ : Kd.R Kd.string 9 b0 w.heap.size (fun _ => True) (.slice (some ⟨go116s1, 0, none⟩) J.length o) ab := (by rw [hw, aA.out]; exact HP54.1); clear HP54; have n0_ := Aside0.mk (hp_); have n1_ := Aside0.mk ((by rw [hw]; exact below_set (HB.out) GB53.out : Below w.heap.size w b0)); clear j; clear HB; have j := n0_; have HB := n1_; clear n0_ n1_; clear hg hw hp_))
           go_roundg k2
           case measure => have := a8.out; have := a9.out; omega
           case rel => exact ⟨(ab), (wrap64 (d + 1)), rS, H', ⟨by have := a8.out; have := a9.out; omega⟩, ⟨by (with_reducible repeat (first | apply Kd.R_alloc | apply Kd.R_drewN | apply Kd.R_drew)); exact j.out⟩, ⟨bE⟩⟩
    | clear M2_1
      go_ret; exact ⟨_, rE, by (with_reducible repeat (first | apply Kd.R_alloc | apply Kd.R_drewN | apply Kd.R_drew)); exact HO_3.out, bE⟩
end Go.Proofs.YtfmajangcbgooaaGreatDoor.Pr

