-- Made by a program of this session (wip/xp/xp.py), over the print's words.
import Derived.Test.YtpkmhepoeefgkaaDoorPr0
import Derived.Test.YtpkmhepoeefgkaaDoorPr3
import Derived.Test.YtpkmhepoeefgkaaDoorPr7
import Derived.Test.YtpkmhepoeefgkaaDoorPr8
import Derived.Test.YtpkmhepoeefgkaaDoorG5
namespace Go.Proofs.YtpkmhepoeefgkaaDoor.Pr
open Go.RowKit Go.Proofs.YtpkmhepoeefgkaaDoorW.PrintWords Go.Proofs.YtpkmhepoeefgkaaDoorW.PrintLast Go.Proofs.YtpkmhepoeefgkaaDoorW.PrintMore
attribute [local go_sem] max2_int min2_int max_two min_two max_three min_three max_four min_four   -- for this text's walks alone
set_option linter.unusedVariables false
set_option linter.unusedSimpArgs false

/-! ### note_Split: function 15 -/
def note_Split.l0 : Nat → ByteArray → List (S24) → Int → Option ((List (S24)) × Int × Int)
 | 0, _, _, _ => none
 | k + 1, x0, x5, x6 => if x0.toList = ([] : List UInt8) then (some (x5, 0, 0)) else ((strings_Cut.f x0 (⟨#[10]⟩ : ByteArray)).bind fun bt240 => ((note_Read.f k bt240.1).bind fun bt243 => (if bt240.2.2 = true then (if bt243.2.2.2.2.2.2.2 = 0 then (if x5.length < 2513169434916 then (note_Split.l0 k bt240.2.1 (x5 ++ [(⟨bt243.1, bt243.2.1, bt243.2.2.1, bt243.2.2.2.1, bt243.2.2.2.2.1, bt243.2.2.2.2.2.1, bt243.2.2.2.2.2.2.1⟩ : S24)]) (wrap64 (x6 + 1))) else (none)) else (some (([] : List (S24)), x6, 3))) else (some (([] : List (S24)), x6, 3)))))
def note_Split.f (k : Nat) (a0 : ByteArray) : Option ((List (S24)) × Int × Int) := note_Split.l0 k a0 ([] : List (S24)) 1
theorem note_Split.mono_l : ∀ k, (∀ y0 y1 y2, LeO (note_Split.l0 k y0 y1 y2) (note_Split.l0 (k + 1) y0 y1 y2))
 | 0 => fun _ _ _ r h => by simp [note_Split.l0] at h
 | k + 1 => by
  have ih0 := note_Split.mono_l k
  ·intro y0 y1 y2
   unfold note_Split.l0
   repeat' first
   | (with_reducible exact ih0 _ _ _)
   | (with_reducible exact note_Read.mono _ _)
   | (with_reducible exact LeO.refl _)
   | (with_reducible exact LeO.none _)
   | (with_reducible refine LeO.ite ?_ ?_)
   | (with_reducible refine LeO.bind ?_ (fun _ => ?_))
   | exact ih0 _ _ _
   | exact note_Read.mono _ _
   | exact LeO.none _
   | refine LeO.ite ?_ ?_
   | refine LeO.bind ?_ (fun _ => ?_)
theorem note_Split.mono : ∀ a0 k, LeO (note_Split.f k a0) (note_Split.f (k + 1) a0) := by
 intro a0 k
 have ih0 := note_Split.mono_l k
 unfold note_Split.f
 repeat' first
   | (with_reducible exact ih0 _ _ _)
   | (with_reducible exact note_Read.mono _ _)
   | (with_reducible exact LeO.refl _)
   | (with_reducible exact LeO.none _)
   | (with_reducible refine LeO.ite ?_ ?_)
   | (with_reducible refine LeO.bind ?_ (fun _ => ?_))
   | exact ih0 _ _ _
   | exact note_Read.mono _ _
   | exact LeO.none _
   | refine LeO.ite ?_ ?_
   | refine LeO.bind ?_ (fun _ => ?_)
set_option maxHeartbeats 8000000 in
set_option maxRecDepth 100000 in
theorem note_Split.calls (k : Nat) (a0 : ByteArray) (r1 : List (S24)) (r2 : Int) (r3 : Int) (w : World) (hM_ : Aside0 (LaidW w)) (h : note_Split.f k a0 = some (r1, r2, r3)) :
  Calls Tryd.prog 15 #[.string a0] w fun e w' => ∃ v0_ : Value, e = .returned (.tuple #[v0_, .int .i64 r2, .int .i64 r3]) ∧ Kd.R k24 24 w' w.heap.size (fun _ => True) v0_ r1 ∧ Below w.heap.size w w' := by
 have hu24 := Tryd.underlying24
 have HB := Aside0.mk (Below.refl w.heap.size w)
 have H : (note_Split.l0 k a0 ([] : List (S24)) 1) = some (r1, r2, r3) := h
 clear h
 have H' := Aside0.mk H
 clear H
 go_enter Tryd.func15, Tryd.ntmps15
 go_wp2
 go_loopg [0, 5, 6] k (fun kq v0 v5 v6 w' => ∃ (x0_1 : ByteArray) (x5_1 : List (S24)) (x6_1 : Int), v0 = .string x0_1 ∧ v6 = .int .i64 x6_1 ∧ Aside0 (note_Split.l0 kq x0_1 x5_1 x6_1 = some (r1, r2, r3)) ∧ Aside0 (kq ≤ k) ∧ Aside0 (Kd.R k24 24 w' w.heap.size (fun _ => True) v5 x5_1) ∧ Aside0 (Below w.heap.size w w'))
 case atStart => exact ⟨(a0), (([] : List (S24))), (1), (by first | rfl | (simp; done) | (simp [*]; done)), (by first | rfl | (simp; done) | (simp [*]; done)), H', ⟨Nat.le_refl _⟩, ⟨by first | exact Kd.R_nil _ _ _ _ _ | exact Kd.N_nil _ _ _ _ _ | exact Kd.V_nil _ _ _ _ _ | exact Kd.Q_nil _ _ _ _ _ | exact Kd.S_nil _ _ _ _ _⟩, ⟨by repeat (first | (with_reducible first | exact HB.out | apply below_alloc | apply pw_below_drewN | apply below_drew1) | exact HB.out)⟩⟩
 case round =>
  clear H'
  try clear c1
  obtain ⟨x0_1, x5_1, x6_1, rfl, rfl, HA, HK1, HO_5, HB⟩ := hrel
  cases gk with
  | zero => exact absurd HA.out (by simp [note_Split.l0])
  | succ k1 =>
   have H := HA.out
   clear HA
   simp only [note_Split.l0] at H
   by_cases c2 : x0_1.toList = ([] : List UInt8)
   ·rw [if_pos c2] at H
    have c2b0 : (x0_1.toList == ([] : List UInt8)) = true := beq_iff_eq.mpr c2
    have c2b1 : (x0_1.toList != ([] : List UInt8)) = false := bne_eq_false_iff_eq.mpr c2
    clear c2
    simp only [Option.some.injEq, Prod.mk.injEq] at H
    obtain ⟨rfl, rfl, rfl⟩ := H
    go_wp2
    go_ret3
    exact ⟨_, by first | rfl | (simp [errW_none, errW_some] <;> rfl) | (simp [*, errW_none, errW_some] <;> rfl), by (with_reducible repeat (first | apply Kd.R_alloc | apply Kd.R_drewN | apply Kd.R_drew)); exact HO_5.out, by repeat (first | (with_reducible first | exact HB.out | apply below_alloc | apply pw_below_drewN | apply below_drew1) | exact HB.out)⟩
   ·rw [if_neg c2] at H
    have c2b0 : (x0_1.toList == ([] : List UInt8)) = false := beq_eq_false_iff_ne.mpr c2
    have c2b1 : (x0_1.toList != ([] : List UInt8)) = true := bne_iff_ne.mpr c2
    replace H := Option.bind_eq_some_iff.mp H
    obtain ⟨⟨t240, t241, t242⟩, A30, H⟩ := H
    replace H : ((note_Read.f k1 t240).bind fun bt243 => (if t242 = true then (if bt243.2.2.2.2.2.2.2 = 0 then (if x5_1.length < 2513169434916 then (note_Split.l0 k1 t241 (x5_1 ++ [(⟨bt243.1, bt243.2.1, bt243.2.2.1, bt243.2.2.2.1, bt243.2.2.2.2.1, bt243.2.2.2.2.2.1, bt243.2.2.2.2.2.2.1⟩ : S24)]) (wrap64 (x6_1 + 1))) else (none)) else (some (([] : List (S24)), x6_1, 3))) else (some (([] : List (S24)), x6_1, 3)))) = some (r1, r2, r3) := H
    have A3 := Aside0.mk A30
    clear A30
    replace H := Option.bind_eq_some_iff.mp H
    obtain ⟨⟨t243, t244, t245, t246, t247, t248, t249, t250⟩, A40, H⟩ := H
    replace H : (if t242 = true then (if t250 = 0 then (if x5_1.length < 2513169434916 then (note_Split.l0 k1 t241 (x5_1 ++ [(⟨t243, t244, t245, t246, t247, t248, t249⟩ : S24)]) (wrap64 (x6_1 + 1))) else (none)) else (some (([] : List (S24)), x6_1, 3))) else (some (([] : List (S24)), x6_1, 3))) = some (r1, r2, r3) := H
    have A4 := Aside0.mk A40
    clear A40
    by_cases c5 : t242 = true
    ·subst c5
     have H1 : (if t250 = 0 then (if x5_1.length < 2513169434916 then (note_Split.l0 k1 t241 (x5_1 ++ [(⟨t243, t244, t245, t246, t247, t248, t249⟩ : S24)]) (wrap64 (x6_1 + 1))) else (none)) else (some (([] : List (S24)), x6_1, 3))) = some (r1, r2, r3) := by rw [if_pos rfl] at H; exact H
     clear H
     have H := H1
     clear H1
     by_cases c6 : t250 = 0
     ·rw [if_pos c6] at H
      have c6b0 : (t250 == 0) = true := beq_iff_eq.mpr c6
      have c6b1 : (t250 != 0) = false := bne_eq_false_iff_eq.mpr c6
      clear c6
      by_cases c7 : x5_1.length < 2513169434916
      ·rw [if_pos c7] at H
       have LMc7 := Aside0.mk c7
       clear c7
       obtain ⟨y252, hy252⟩ : ∃ y_ : List (S24), y_ = (x5_1 ++ [(⟨t243, t244, t245, t246, t247, t248, t249⟩ : S24)]) := ⟨_, rfl⟩
       replace H : (note_Split.l0 k1 t241 y252 (wrap64 (x6_1 + 1))) = some (r1, r2, r3) := by first | (rw [hy252]; with_reducible exact H) | (have H2_ := (Option.bind_some _ _).symm.trans H; rw [hy252]; with_reducible exact H2_) | (have H2_ := (Option.bind_some _ _).symm.trans H; with_reducible exact H2_) | with_reducible exact H | (rw [hy252]; exact H) | exact H
       have Ny252 := Aside0.mk hy252
       clear hy252
       have H' := Aside0.mk H
       clear H
       go_wp2_with (first | ((with_reducible refine gate_callee (f := 36) rfl ?_); refine goesL_ (some 18) rfl rfl Tryd.func36 (by kernel_rfl) rfl #[.string x0_1, .string (⟨#[10]⟩ : ByteArray)] rfl (by (try simp only [List.map_toArray, List.map_cons, List.map_nil]); first | done | rfl | (simp only [List.length_drop, List.length_take]; rfl)) ?_; (with_reducible refine (strings_Cut.calls x0_1 (⟨#[10]⟩ : ByteArray) t240 t241 true _ ?side1 A3.out).mono ?_); (case side1 => exact ⟨by repeat (first | (with_reducible exact hM_.out) | (with_reducible exact LaidW.below hM_.out HB.out) | (with_reducible refine LaidW.alloc ?_ _) | (with_reducible refine LaidW.drewN ?_ _) | (with_reducible refine LaidW.drew ?_) | exact LaidW.below hM_.out (by repeat (first | (with_reducible first | exact HB.out | apply below_alloc | apply pw_below_drewN | apply below_drew1) | exact HB.out)))⟩); rintro e w' ⟨rfl, ⟨nd, rfl⟩⟩; refine ⟨_, rfl, ?_⟩; (try (rw [drewN_self wr]; generalize hq_ : World.drewN wr _ = wr; have n0_ : Aside0 (Kd.R k24 24 wr w.heap.size (fun _ => True) u5 x5_1) := ⟨by rw [← hq_]; exact (by (with_reducible repeat (first | apply Kd.R_alloc | apply Kd.R_drewN | apply Kd.R_drew)); exact HO_5.out)⟩; have n1_ : Aside0 (Below w.heap.size w wr) := ⟨by rw [← hq_]; exact (by repeat (first | (with_reducible first | exact HB.out | apply below_alloc | apply pw_below_drewN | apply below_drew1) | exact HB.out))⟩; clear HO_5 HB hq_; have HO_5 := n0_; have HB := n1_; clear n0_ n1_))) | ((with_reducible refine gate_callee (f := 11) rfl ?_); refine goesL_ (some 24) rfl rfl Tryd.func11 (by kernel_rfl) rfl #[.string t240] rfl (by (try simp only [List.map_toArray, List.map_cons, List.map_nil]); first | done | rfl | (simp only [List.length_drop, List.length_take]; rfl)) ?_; (with_reducible refine (note_Read.calls k1 t240 t243 t244 t245 t246 t247 t248 t249 t250 _ ?side1 A4.out).mono ?_); (case side1 => exact ⟨by repeat (first | (with_reducible exact hM_.out) | (with_reducible exact LaidW.below hM_.out HB.out) | (with_reducible refine LaidW.alloc ?_ _) | (with_reducible refine LaidW.drewN ?_ _) | (with_reducible refine LaidW.drew ?_) | exact LaidW.below hM_.out (by repeat (first | (with_reducible first | exact HB.out | apply below_alloc | apply pw_below_drewN | apply below_drew1) | exact HB.out)))⟩); rintro e w8 ⟨rfl, hb⟩; refine ⟨_, rfl, ?_⟩; have n0_ := Aside0.mk (Kd.R_below (by (with_reducible repeat (first | apply Kd.R_alloc | apply Kd.R_drewN | apply Kd.R_drew)); exact HO_5.out) hb); have n1_ := Aside0.mk (below_step (by repeat (first | (with_reducible first | exact HB.out | apply below_alloc | apply pw_below_drewN | apply below_drew1) | exact HB.out)) hb); clear HO_5; clear HB; have HO_5 := n0_; have HB := n1_; clear n0_ n1_; (try clear hb); (try clear hb2); (try clear hk); (try clear hi)) | ((with_reducible refine gate_dst (N := 10) rfl ?_); refine box_event ?hg (N := 10) ?hd (cs := #[.int .i64 0, .int .u64 0, .int .i64 0, .int .i64 0, .int .i64 0, .int .i64 0, .int .i64 0]) (t := 24) ?hr ?_; (case hd => rfl); (case hg => rfl); (case hr => first | (go_simp; done) | (go_simp; rfl)); intro gb251 hg w9 hbox hb; have n0_ := Aside0.mk (Kd.R_below (Kd.R_elderB (by (with_reducible repeat (first | apply Kd.R_alloc | apply Kd.R_drewN | apply Kd.R_drew)); exact HO_5.out) gb251 (Nat.le_of_eq hg.symm)) hb); have n1_ := Aside0.mk (below_step (by repeat (first | (with_reducible first | exact HB.out | apply below_alloc | apply pw_below_drewN | apply below_drew1) | exact HB.out)) hb); have n2_ := Aside0.mk (hbox); have n3_ := Aside0.mk ((by rw [hg]; exact (below_size (by repeat (first | (with_reducible first | exact HB.out | apply below_alloc | apply pw_below_drewN | apply below_drew1) | exact HB.out))) : w.heap.size ≤ gb251)); have n4_ := Aside0.mk ((by rw [hg]; exact (below_size (by repeat (first | (with_reducible first | exact HB.out | apply below_alloc | apply pw_below_drewN | apply below_drew1) | exact HB.out))) : w.heap.size ≤ gb251)); clear HO_5; clear HB; have HO_5 := n0_; have HB := n1_; have BK251 := n2_; have GW251 := n3_; have GE251 := n4_; clear n0_ n1_ n2_ n3_ n4_; clear hb hbox hg; have hcz10_0 : w9.cell? ⟨gb251, 0, none⟩ = some (.int .i64 0) := (blk_cell BK251.out 0).trans rfl; have hcz10_1 : w9.cell? ⟨gb251, 1, none⟩ = some (.int .u64 0) := (blk_cell BK251.out 1).trans rfl; have hcz10_2 : w9.cell? ⟨gb251, 2, none⟩ = some (.int .i64 0) := (blk_cell BK251.out 2).trans rfl; have hcz10_3 : w9.cell? ⟨gb251, 3, none⟩ = some (.int .i64 0) := (blk_cell BK251.out 3).trans rfl; have hcz10_4 : w9.cell? ⟨gb251, 4, none⟩ = some (.int .i64 0) := (blk_cell BK251.out 4).trans rfl; have hcz10_5 : w9.cell? ⟨gb251, 5, none⟩ = some (.int .i64 0) := (blk_cell BK251.out 5).trans rfl; have hcz10_6 : w9.cell? ⟨gb251, 6, none⟩ = some (.int .i64 0) := (blk_cell BK251.out 6).trans rfl; have hfz10_0 := blk_frozen BK251.out 0; have hfz10_1 := blk_frozen BK251.out 1; have hfz10_2 := blk_frozen BK251.out 2; have hfz10_3 := blk_frozen BK251.out 3; have hfz10_4 := blk_frozen BK251.out 4; have hfz10_5 := blk_frozen BK251.out 5; have hfz10_6 := blk_frozen BK251.out 6) | ((with_reducible refine gate_builtin (b := .append) (xs := #[.tmp 34, .tmp 36]) rfl ?_); at_builtin; refine Kd.R_append k24 (w0 := w) w.heap.size rfl (.tmp 34) (.tmp 36) 36 24 (.agg #[(.int .i64 0), (.int .u64 0), (.int .i64 0), (.int .i64 0), (.int .i64 0), (.int .i64 0), (.int .i64 0)]) 56 rfl Tryd.underlying36 info24 rfl (by decide) (by omega) u5 x5_1 (⟨t243, t244, t245, t246, t247, t248, t249⟩ : S24) [.int .i64 t243, .int .u64 t244, .int .i64 t245, .int .i64 t246, .int .i64 t247, .int .i64 t248, .int .i64 t249] (fun k_ => k_ ≠ gb251) (fun _ => False) rfl (by first | (go_simp; done) | (go_simp; rfl)) ?aP (fun _ hk => hk.elim) ?aF ?aO ?aB ?aS ?aL ?_; (case aP => exact k24_mkM _ _ _ (⟨t243, t244, t245, t246, t247, t248, t249⟩ : S24)); (case aB => exact (by repeat (first | (with_reducible first | exact HB.out | apply below_alloc | apply pw_below_drewN | apply below_drew1 | refine below_set ?_ GE251.out) | exact HB.out))); (case aF => exact (fun k_ hk => Kd.freshB (g := gb251) (o := .cells #[.int .i64 t243, .int .u64 t244, .int .i64 t245, .int .i64 t246, .int .i64 t247, .int .i64 t248, .int .i64 t249] 24 (0, 0)) (by (with_reducible repeat (first | refine blk_drewN ?_ _ | refine blk_drew ?_ | refine blk_alloc ?_ _)); refine blk_put (cs := #[.int .i64 t243, .int .u64 t244, .int .i64 t245, .int .i64 t246, .int .i64 t247, .int .i64 t248, .int .i64 0]) ?_ 6 _ rfl; (with_reducible repeat (first | refine blk_drewN ?_ _ | refine blk_drew ?_ | refine blk_alloc ?_ _)); refine blk_put (cs := #[.int .i64 t243, .int .u64 t244, .int .i64 t245, .int .i64 t246, .int .i64 t247, .int .i64 0, .int .i64 0]) ?_ 5 _ rfl; (with_reducible repeat (first | refine blk_drewN ?_ _ | refine blk_drew ?_ | refine blk_alloc ?_ _)); refine blk_put (cs := #[.int .i64 t243, .int .u64 t244, .int .i64 t245, .int .i64 t246, .int .i64 0, .int .i64 0, .int .i64 0]) ?_ 4 _ rfl; (with_reducible repeat (first | refine blk_drewN ?_ _ | refine blk_drew ?_ | refine blk_alloc ?_ _)); refine blk_put (cs := #[.int .i64 t243, .int .u64 t244, .int .i64 t245, .int .i64 0, .int .i64 0, .int .i64 0, .int .i64 0]) ?_ 3 _ rfl; (with_reducible repeat (first | refine blk_drewN ?_ _ | refine blk_drew ?_ | refine blk_alloc ?_ _)); refine blk_put (cs := #[.int .i64 t243, .int .u64 t244, .int .i64 0, .int .i64 0, .int .i64 0, .int .i64 0, .int .i64 0]) ?_ 2 _ rfl; (with_reducible repeat (first | refine blk_drewN ?_ _ | refine blk_drew ?_ | refine blk_alloc ?_ _)); refine blk_put (cs := #[.int .i64 t243, .int .u64 0, .int .i64 0, .int .i64 0, .int .i64 0, .int .i64 0, .int .i64 0]) ?_ 1 _ rfl; (with_reducible repeat (first | refine blk_drewN ?_ _ | refine blk_drew ?_ | refine blk_alloc ?_ _)); refine blk_put (cs := #[.int .i64 0, .int .u64 0, .int .i64 0, .int .i64 0, .int .i64 0, .int .i64 0, .int .i64 0]) ?_ 0 _ rfl; (with_reducible repeat (first | refine blk_drewN ?_ _ | refine blk_drew ?_ | refine blk_alloc ?_ _)); exact BK251.out) k_ hk)); (case aO => exact (by (with_reducible repeat (first | apply Kd.R_alloc | apply Kd.R_drewN | apply Kd.R_drew)); exact Kd.R_mono (Kd.R_far (p := ⟨gb251, 6, none⟩) (Kd.R_far (p := ⟨gb251, 5, none⟩) (Kd.R_far (p := ⟨gb251, 4, none⟩) (Kd.R_far (p := ⟨gb251, 3, none⟩) (Kd.R_far (p := ⟨gb251, 2, none⟩) (Kd.R_far (p := ⟨gb251, 1, none⟩) (Kd.R_far (p := ⟨gb251, 0, none⟩) (Kd.R_mono HO_5.out (fun k_ hk => (⟨hk, hk.2⟩ : _ ∧ k_ ≠ gb251))) (fun _ hk => hk.2) (.int .i64 t243)) (fun _ hk => hk.2) (.int .u64 t244)) (fun _ hk => hk.2) (.int .i64 t245)) (fun _ hk => hk.2) (.int .i64 t246)) (fun _ hk => hk.2) (.int .i64 t247)) (fun _ hk => hk.2) (.int .i64 t248)) (fun _ hk => hk.2) (.int .i64 t249)) (fun _ hk => hk.1.2))); (case aS => exact (below_size (by repeat (first | (with_reducible first | exact HB.out | apply below_alloc | apply pw_below_drewN | apply below_drew1 | refine below_set ?_ GE251.out) | exact HB.out)))); (case aL => have := LMc7.out; omega); intro v253 w11 ho hb hg hat; rw [← Ny252.out] at ho; have n0_ := Aside0.mk (blk_grown (g := gb251) (o := .cells #[.int .i64 t243, .int .u64 t244, .int .i64 t245, .int .i64 t246, .int .i64 t247, .int .i64 t248, .int .i64 t249] 24 (0, 0)) (by (with_reducible repeat (first | refine blk_drewN ?_ _ | refine blk_drew ?_ | refine blk_alloc ?_ _)); refine blk_put (cs := #[.int .i64 t243, .int .u64 t244, .int .i64 t245, .int .i64 t246, .int .i64 t247, .int .i64 t248, .int .i64 0]) ?_ 6 _ rfl; (with_reducible repeat (first | refine blk_drewN ?_ _ | refine blk_drew ?_ | refine blk_alloc ?_ _)); refine blk_put (cs := #[.int .i64 t243, .int .u64 t244, .int .i64 t245, .int .i64 t246, .int .i64 t247, .int .i64 0, .int .i64 0]) ?_ 5 _ rfl; (with_reducible repeat (first | refine blk_drewN ?_ _ | refine blk_drew ?_ | refine blk_alloc ?_ _)); refine blk_put (cs := #[.int .i64 t243, .int .u64 t244, .int .i64 t245, .int .i64 t246, .int .i64 0, .int .i64 0, .int .i64 0]) ?_ 4 _ rfl; (with_reducible repeat (first | refine blk_drewN ?_ _ | refine blk_drew ?_ | refine blk_alloc ?_ _)); refine blk_put (cs := #[.int .i64 t243, .int .u64 t244, .int .i64 t245, .int .i64 0, .int .i64 0, .int .i64 0, .int .i64 0]) ?_ 3 _ rfl; (with_reducible repeat (first | refine blk_drewN ?_ _ | refine blk_drew ?_ | refine blk_alloc ?_ _)); refine blk_put (cs := #[.int .i64 t243, .int .u64 t244, .int .i64 0, .int .i64 0, .int .i64 0, .int .i64 0, .int .i64 0]) ?_ 2 _ rfl; (with_reducible repeat (first | refine blk_drewN ?_ _ | refine blk_drew ?_ | refine blk_alloc ?_ _)); refine blk_put (cs := #[.int .i64 t243, .int .u64 0, .int .i64 0, .int .i64 0, .int .i64 0, .int .i64 0, .int .i64 0]) ?_ 1 _ rfl; (with_reducible repeat (first | refine blk_drewN ?_ _ | refine blk_drew ?_ | refine blk_alloc ?_ _)); refine blk_put (cs := #[.int .i64 0, .int .u64 0, .int .i64 0, .int .i64 0, .int .i64 0, .int .i64 0, .int .i64 0]) ?_ 0 _ rfl; (with_reducible repeat (first | refine blk_drewN ?_ _ | refine blk_drew ?_ | refine blk_alloc ?_ _)); exact BK251.out) hg (Kd.R_away HO_5.out (fun _ hk => hk.2))); have n1_ := Aside0.mk (hb); have n2_ := Aside0.mk (ho); clear BK251; clear HB; clear HO_5; have BK251 := n0_; have HB := n1_; have HO254 := n2_; clear n0_ n1_ n2_; clear ho hb hg hat))
       go_roundg k1
       case measure => have := HK1.out; omega
       case rel => exact ⟨(t241), (y252), (wrap64 (x6_1 + 1)), (by first | rfl | (simp; done) | (simp [*]; done)), (by first | rfl | (simp; done) | (simp [*]; done)), H', ⟨by have := HK1.out; omega⟩, ⟨by (with_reducible repeat (first | apply Kd.R_alloc | apply Kd.R_drewN | apply Kd.R_drew)); exact Kd.R_mono HO254.out (fun _ hk => trivial)⟩, ⟨by repeat (first | (with_reducible first | exact HB.out | apply below_alloc | apply pw_below_drewN | apply below_drew1 | refine below_set ?_ GE251.out) | exact HB.out)⟩⟩
      ·rw [if_neg c7] at H
       exact absurd H (by simp)
     ·rw [if_neg c6] at H
      have c6b0 : (t250 == 0) = false := beq_eq_false_iff_ne.mpr c6
      have c6b1 : (t250 != 0) = true := bne_iff_ne.mpr c6
      simp only [Option.some.injEq, Prod.mk.injEq] at H
      obtain ⟨rfl, rfl, rfl⟩ := H
      go_wp2_with (first | ((with_reducible refine gate_callee (f := 36) rfl ?_); refine goesL_ (some 18) rfl rfl Tryd.func36 (by kernel_rfl) rfl #[.string x0_1, .string (⟨#[10]⟩ : ByteArray)] rfl (by (try simp only [List.map_toArray, List.map_cons, List.map_nil]); first | done | rfl | (simp only [List.length_drop, List.length_take]; rfl)) ?_; (with_reducible refine (strings_Cut.calls x0_1 (⟨#[10]⟩ : ByteArray) t240 t241 true _ ?side1 A3.out).mono ?_); (case side1 => exact ⟨by repeat (first | (with_reducible exact hM_.out) | (with_reducible exact LaidW.below hM_.out HB.out) | (with_reducible refine LaidW.alloc ?_ _) | (with_reducible refine LaidW.drewN ?_ _) | (with_reducible refine LaidW.drew ?_) | exact LaidW.below hM_.out (by repeat (first | (with_reducible first | exact HB.out | apply below_alloc | apply pw_below_drewN | apply below_drew1) | exact HB.out)))⟩); rintro e w' ⟨rfl, ⟨nd, rfl⟩⟩; refine ⟨_, rfl, ?_⟩; (try (rw [drewN_self wr]; generalize hq_ : World.drewN wr _ = wr; have n0_ : Aside0 (Kd.R k24 24 wr w.heap.size (fun _ => True) u5 x5_1) := ⟨by rw [← hq_]; exact (by (with_reducible repeat (first | apply Kd.R_alloc | apply Kd.R_drewN | apply Kd.R_drew)); exact HO_5.out)⟩; have n1_ : Aside0 (Below w.heap.size w wr) := ⟨by rw [← hq_]; exact (by repeat (first | (with_reducible first | exact HB.out | apply below_alloc | apply pw_below_drewN | apply below_drew1) | exact HB.out))⟩; clear HO_5 HB hq_; have HO_5 := n0_; have HB := n1_; clear n0_ n1_))) | ((with_reducible refine gate_callee (f := 11) rfl ?_); refine goesL_ (some 24) rfl rfl Tryd.func11 (by kernel_rfl) rfl #[.string t240] rfl (by (try simp only [List.map_toArray, List.map_cons, List.map_nil]); first | done | rfl | (simp only [List.length_drop, List.length_take]; rfl)) ?_; (with_reducible refine (note_Read.calls k1 t240 t243 t244 t245 t246 t247 t248 t249 t250 _ ?side1 A4.out).mono ?_); (case side1 => exact ⟨by repeat (first | (with_reducible exact hM_.out) | (with_reducible exact LaidW.below hM_.out HB.out) | (with_reducible refine LaidW.alloc ?_ _) | (with_reducible refine LaidW.drewN ?_ _) | (with_reducible refine LaidW.drew ?_) | exact LaidW.below hM_.out (by repeat (first | (with_reducible first | exact HB.out | apply below_alloc | apply pw_below_drewN | apply below_drew1) | exact HB.out)))⟩); rintro e w12 ⟨rfl, hb⟩; refine ⟨_, rfl, ?_⟩; have n0_ := Aside0.mk (Kd.R_below (by (with_reducible repeat (first | apply Kd.R_alloc | apply Kd.R_drewN | apply Kd.R_drew)); exact HO_5.out) hb); have n1_ := Aside0.mk (below_step (by repeat (first | (with_reducible first | exact HB.out | apply below_alloc | apply pw_below_drewN | apply below_drew1) | exact HB.out)) hb); clear HO_5; clear HB; have HO_5 := n0_; have HB := n1_; clear n0_ n1_; (try clear hb); (try clear hb2); (try clear hk); (try clear hi)) | ((with_reducible refine gate_dst (N := 10) rfl ?_); refine box_event ?hg (N := 10) ?hd (cs := #[.int .i64 0, .int .u64 0, .int .i64 0, .int .i64 0, .int .i64 0, .int .i64 0, .int .i64 0]) (t := 24) ?hr ?_; (case hd => rfl); (case hg => rfl); (case hr => first | (go_simp; done) | (go_simp; rfl)); intro gb251 hg w13 hbox hb; have n0_ := Aside0.mk (Kd.R_below (Kd.R_elderB (by (with_reducible repeat (first | apply Kd.R_alloc | apply Kd.R_drewN | apply Kd.R_drew)); exact HO_5.out) gb251 (Nat.le_of_eq hg.symm)) hb); have n1_ := Aside0.mk (below_step (by repeat (first | (with_reducible first | exact HB.out | apply below_alloc | apply pw_below_drewN | apply below_drew1) | exact HB.out)) hb); have n2_ := Aside0.mk (hbox); have n3_ := Aside0.mk ((by rw [hg]; exact (below_size (by repeat (first | (with_reducible first | exact HB.out | apply below_alloc | apply pw_below_drewN | apply below_drew1) | exact HB.out))) : w.heap.size ≤ gb251)); have n4_ := Aside0.mk ((by rw [hg]; exact (below_size (by repeat (first | (with_reducible first | exact HB.out | apply below_alloc | apply pw_below_drewN | apply below_drew1) | exact HB.out))) : w.heap.size ≤ gb251)); clear HO_5; clear HB; have HO_5 := n0_; have HB := n1_; have BK251 := n2_; have GW251 := n3_; have GE251 := n4_; clear n0_ n1_ n2_ n3_ n4_; clear hb hbox hg; have hcz14_0 : w13.cell? ⟨gb251, 0, none⟩ = some (.int .i64 0) := (blk_cell BK251.out 0).trans rfl; have hcz14_1 : w13.cell? ⟨gb251, 1, none⟩ = some (.int .u64 0) := (blk_cell BK251.out 1).trans rfl; have hcz14_2 : w13.cell? ⟨gb251, 2, none⟩ = some (.int .i64 0) := (blk_cell BK251.out 2).trans rfl; have hcz14_3 : w13.cell? ⟨gb251, 3, none⟩ = some (.int .i64 0) := (blk_cell BK251.out 3).trans rfl; have hcz14_4 : w13.cell? ⟨gb251, 4, none⟩ = some (.int .i64 0) := (blk_cell BK251.out 4).trans rfl; have hcz14_5 : w13.cell? ⟨gb251, 5, none⟩ = some (.int .i64 0) := (blk_cell BK251.out 5).trans rfl; have hcz14_6 : w13.cell? ⟨gb251, 6, none⟩ = some (.int .i64 0) := (blk_cell BK251.out 6).trans rfl; have hfz14_0 := blk_frozen BK251.out 0; have hfz14_1 := blk_frozen BK251.out 1; have hfz14_2 := blk_frozen BK251.out 2; have hfz14_3 := blk_frozen BK251.out 3; have hfz14_4 := blk_frozen BK251.out 4; have hfz14_5 := blk_frozen BK251.out 5; have hfz14_6 := blk_frozen BK251.out 6))
      go_ret3
      exact ⟨_, by first | rfl | (simp [errW_none, errW_some] <;> rfl) | (simp [*, errW_none, errW_some] <;> rfl), by first | exact Kd.R_nil _ _ _ _ _ | exact Kd.N_nil _ _ _ _ _ | exact Kd.V_nil _ _ _ _ _ | exact Kd.Q_nil _ _ _ _ _ | exact Kd.S_nil _ _ _ _ _, by repeat (first | (with_reducible first | exact HB.out | apply below_alloc | apply pw_below_drewN | apply below_drew1 | refine below_set ?_ GE251.out) | exact HB.out)⟩
    ·replace c5 := Bool.eq_false_iff.mpr c5
     subst c5
     have H1 : (some (([] : List (S24)), x6_1, 3)) = some (r1, r2, r3) := by rw [if_neg (show ¬ (false = true) by decide)] at H; exact H
     clear H
     have H := H1
     clear H1
     simp only [Option.some.injEq, Prod.mk.injEq] at H
     obtain ⟨rfl, rfl, rfl⟩ := H
     go_wp2_with (first | ((with_reducible refine gate_callee (f := 36) rfl ?_); refine goesL_ (some 18) rfl rfl Tryd.func36 (by kernel_rfl) rfl #[.string x0_1, .string (⟨#[10]⟩ : ByteArray)] rfl (by (try simp only [List.map_toArray, List.map_cons, List.map_nil]); first | done | rfl | (simp only [List.length_drop, List.length_take]; rfl)) ?_; (with_reducible refine (strings_Cut.calls x0_1 (⟨#[10]⟩ : ByteArray) t240 t241 false _ ?side1 A3.out).mono ?_); (case side1 => exact ⟨by repeat (first | (with_reducible exact hM_.out) | (with_reducible exact LaidW.below hM_.out HB.out) | (with_reducible refine LaidW.alloc ?_ _) | (with_reducible refine LaidW.drewN ?_ _) | (with_reducible refine LaidW.drew ?_) | exact LaidW.below hM_.out (by repeat (first | (with_reducible first | exact HB.out | apply below_alloc | apply pw_below_drewN | apply below_drew1) | exact HB.out)))⟩); rintro e w' ⟨rfl, ⟨nd, rfl⟩⟩; refine ⟨_, rfl, ?_⟩; (try (rw [drewN_self wr]; generalize hq_ : World.drewN wr _ = wr; have n0_ : Aside0 (Kd.R k24 24 wr w.heap.size (fun _ => True) u5 x5_1) := ⟨by rw [← hq_]; exact (by (with_reducible repeat (first | apply Kd.R_alloc | apply Kd.R_drewN | apply Kd.R_drew)); exact HO_5.out)⟩; have n1_ : Aside0 (Below w.heap.size w wr) := ⟨by rw [← hq_]; exact (by repeat (first | (with_reducible first | exact HB.out | apply below_alloc | apply pw_below_drewN | apply below_drew1) | exact HB.out))⟩; clear HO_5 HB hq_; have HO_5 := n0_; have HB := n1_; clear n0_ n1_))) | ((with_reducible refine gate_callee (f := 11) rfl ?_); refine goesL_ (some 24) rfl rfl Tryd.func11 (by kernel_rfl) rfl #[.string t240] rfl (by (try simp only [List.map_toArray, List.map_cons, List.map_nil]); first | done | rfl | (simp only [List.length_drop, List.length_take]; rfl)) ?_; (with_reducible refine (note_Read.calls k1 t240 t243 t244 t245 t246 t247 t248 t249 t250 _ ?side1 A4.out).mono ?_); (case side1 => exact ⟨by repeat (first | (with_reducible exact hM_.out) | (with_reducible exact LaidW.below hM_.out HB.out) | (with_reducible refine LaidW.alloc ?_ _) | (with_reducible refine LaidW.drewN ?_ _) | (with_reducible refine LaidW.drew ?_) | exact LaidW.below hM_.out (by repeat (first | (with_reducible first | exact HB.out | apply below_alloc | apply pw_below_drewN | apply below_drew1) | exact HB.out)))⟩); rintro e w15 ⟨rfl, hb⟩; refine ⟨_, rfl, ?_⟩; have n0_ := Aside0.mk (Kd.R_below (by (with_reducible repeat (first | apply Kd.R_alloc | apply Kd.R_drewN | apply Kd.R_drew)); exact HO_5.out) hb); have n1_ := Aside0.mk (below_step (by repeat (first | (with_reducible first | exact HB.out | apply below_alloc | apply pw_below_drewN | apply below_drew1) | exact HB.out)) hb); clear HO_5; clear HB; have HO_5 := n0_; have HB := n1_; clear n0_ n1_; (try clear hb); (try clear hb2); (try clear hk); (try clear hi)) | ((with_reducible refine gate_dst (N := 10) rfl ?_); refine box_event ?hg (N := 10) ?hd (cs := #[.int .i64 0, .int .u64 0, .int .i64 0, .int .i64 0, .int .i64 0, .int .i64 0, .int .i64 0]) (t := 24) ?hr ?_; (case hd => rfl); (case hg => rfl); (case hr => first | (go_simp; done) | (go_simp; rfl)); intro gb251 hg w16 hbox hb; have n0_ := Aside0.mk (Kd.R_below (Kd.R_elderB (by (with_reducible repeat (first | apply Kd.R_alloc | apply Kd.R_drewN | apply Kd.R_drew)); exact HO_5.out) gb251 (Nat.le_of_eq hg.symm)) hb); have n1_ := Aside0.mk (below_step (by repeat (first | (with_reducible first | exact HB.out | apply below_alloc | apply pw_below_drewN | apply below_drew1) | exact HB.out)) hb); have n2_ := Aside0.mk (hbox); have n3_ := Aside0.mk ((by rw [hg]; exact (below_size (by repeat (first | (with_reducible first | exact HB.out | apply below_alloc | apply pw_below_drewN | apply below_drew1) | exact HB.out))) : w.heap.size ≤ gb251)); have n4_ := Aside0.mk ((by rw [hg]; exact (below_size (by repeat (first | (with_reducible first | exact HB.out | apply below_alloc | apply pw_below_drewN | apply below_drew1) | exact HB.out))) : w.heap.size ≤ gb251)); clear HO_5; clear HB; have HO_5 := n0_; have HB := n1_; have BK251 := n2_; have GW251 := n3_; have GE251 := n4_; clear n0_ n1_ n2_ n3_ n4_; clear hb hbox hg; have hcz17_0 : w16.cell? ⟨gb251, 0, none⟩ = some (.int .i64 0) := (blk_cell BK251.out 0).trans rfl; have hcz17_1 : w16.cell? ⟨gb251, 1, none⟩ = some (.int .u64 0) := (blk_cell BK251.out 1).trans rfl; have hcz17_2 : w16.cell? ⟨gb251, 2, none⟩ = some (.int .i64 0) := (blk_cell BK251.out 2).trans rfl; have hcz17_3 : w16.cell? ⟨gb251, 3, none⟩ = some (.int .i64 0) := (blk_cell BK251.out 3).trans rfl; have hcz17_4 : w16.cell? ⟨gb251, 4, none⟩ = some (.int .i64 0) := (blk_cell BK251.out 4).trans rfl; have hcz17_5 : w16.cell? ⟨gb251, 5, none⟩ = some (.int .i64 0) := (blk_cell BK251.out 5).trans rfl; have hcz17_6 : w16.cell? ⟨gb251, 6, none⟩ = some (.int .i64 0) := (blk_cell BK251.out 6).trans rfl; have hfz17_0 := blk_frozen BK251.out 0; have hfz17_1 := blk_frozen BK251.out 1; have hfz17_2 := blk_frozen BK251.out 2; have hfz17_3 := blk_frozen BK251.out 3; have hfz17_4 := blk_frozen BK251.out 4; have hfz17_5 := blk_frozen BK251.out 5; have hfz17_6 := blk_frozen BK251.out 6))
     go_ret3
     exact ⟨_, by first | rfl | (simp [errW_none, errW_some] <;> rfl) | (simp [*, errW_none, errW_some] <;> rfl), by first | exact Kd.R_nil _ _ _ _ _ | exact Kd.N_nil _ _ _ _ _ | exact Kd.V_nil _ _ _ _ _ | exact Kd.Q_nil _ _ _ _ _ | exact Kd.S_nil _ _ _ _ _, by repeat (first | (with_reducible first | exact HB.out | apply below_alloc | apply pw_below_drewN | apply below_drew1 | refine below_set ?_ GE251.out) | exact HB.out)⟩

/-! ### lockkeeperref24_Split: function 16 -/
def lockkeeperref24_Split.l0 : Nat → ByteArray → List (S24) → Int → Int → Option ((List (S24)) × Int × Int)
 | 0, _, _, _, _ => none
 | k + 1, x0, x5, x6, x7 => if x7 < (x0.size : Int) then (if 0 ≤ x7 then (if (bt x0 x7) = 10 then (if 0 ≤ x6 then (if x6 ≤ x7 then (if x7 ≤ (x0.size : Int) then ((lockkeeperref24_Read.f k (x0.extract (x6 : Int).toNat (x7 : Int).toNat)).bind fun bt255 => (if bt255.2.2.2.2.2.2.2 = 0 then (if x5.length < 2513169434916 then (lockkeeperref24_Split.l0 k x0 (x5 ++ [(⟨bt255.1, bt255.2.1, bt255.2.2.1, bt255.2.2.2.1, bt255.2.2.2.2.1, bt255.2.2.2.2.2.1, bt255.2.2.2.2.2.2.1⟩ : S24)]) (wrap64 (x7 + 1)) (wrap64 (x7 + 1))) else (none)) else (some (([] : List (S24)), wrap64 ((x5.length : Int) + 1), 3)))) else (none)) else (none)) else (none)) else (lockkeeperref24_Split.l0 k x0 x5 x6 (wrap64 (x7 + 1)))) else (none)) else (if x6 < (x0.size : Int) then (some (([] : List (S24)), wrap64 ((x5.length : Int) + 1), 3)) else (some (x5, 0, 0)))
def lockkeeperref24_Split.f (k : Nat) (a0 : ByteArray) : Option ((List (S24)) × Int × Int) := lockkeeperref24_Split.l0 k a0 ([] : List (S24)) 0 0
theorem lockkeeperref24_Split.mono_l : ∀ k, (∀ y0 y1 y2 y3, LeO (lockkeeperref24_Split.l0 k y0 y1 y2 y3) (lockkeeperref24_Split.l0 (k + 1) y0 y1 y2 y3))
 | 0 => fun _ _ _ _ r h => by simp [lockkeeperref24_Split.l0] at h
 | k + 1 => by
  have ih0 := lockkeeperref24_Split.mono_l k
  ·intro y0 y1 y2 y3
   unfold lockkeeperref24_Split.l0
   repeat' first
   | (with_reducible exact ih0 _ _ _ _)
   | (with_reducible exact lockkeeperref24_Read.mono _ _)
   | (with_reducible exact LeO.refl _)
   | (with_reducible exact LeO.none _)
   | (with_reducible refine LeO.ite ?_ ?_)
   | (with_reducible refine LeO.bind ?_ (fun _ => ?_))
   | exact ih0 _ _ _ _
   | exact lockkeeperref24_Read.mono _ _
   | exact LeO.none _
   | refine LeO.ite ?_ ?_
   | refine LeO.bind ?_ (fun _ => ?_)
theorem lockkeeperref24_Split.mono : ∀ a0 k, LeO (lockkeeperref24_Split.f k a0) (lockkeeperref24_Split.f (k + 1) a0) := by
 intro a0 k
 have ih0 := lockkeeperref24_Split.mono_l k
 unfold lockkeeperref24_Split.f
 repeat' first
   | (with_reducible exact ih0 _ _ _ _)
   | (with_reducible exact lockkeeperref24_Read.mono _ _)
   | (with_reducible exact LeO.refl _)
   | (with_reducible exact LeO.none _)
   | (with_reducible refine LeO.ite ?_ ?_)
   | (with_reducible refine LeO.bind ?_ (fun _ => ?_))
   | exact ih0 _ _ _ _
   | exact lockkeeperref24_Read.mono _ _
   | exact LeO.none _
   | refine LeO.ite ?_ ?_
   | refine LeO.bind ?_ (fun _ => ?_)
set_option maxHeartbeats 8000000 in
set_option maxRecDepth 100000 in
theorem lockkeeperref24_Split.calls (k : Nat) (a0 : ByteArray) (r1 : List (S24)) (r2 : Int) (r3 : Int) (w : World) (h : lockkeeperref24_Split.f k a0 = some (r1, r2, r3)) :
  Calls Tryd.prog 16 #[.string a0] w fun e w' => ∃ v0_ : Value, e = .returned (.tuple #[v0_, .int .i64 r2, .int .i64 r3]) ∧ Kd.R k24 24 w' w.heap.size (fun _ => True) v0_ r1 ∧ Below w.heap.size w w' := by
 have hu24 := Tryd.underlying24
 have HB := Aside0.mk (Below.refl w.heap.size w)
 have H : (lockkeeperref24_Split.l0 k a0 ([] : List (S24)) 0 0) = some (r1, r2, r3) := h
 clear h
 have H' := Aside0.mk H
 clear H
 go_enter Tryd.func16, Tryd.ntmps16
 go_wp2
 go_loopg [5, 6, 7] k (fun kq v5 v6 v7 w' => ∃ (x5_1 : List (S24)) (x6_1 : Int) (x7_1 : Int), v6 = .int .i64 x6_1 ∧ v7 = .int .i64 x7_1 ∧ Aside0 (lockkeeperref24_Split.l0 kq a0 x5_1 x6_1 x7_1 = some (r1, r2, r3)) ∧ Aside0 (kq ≤ k) ∧ Aside0 (Kd.R k24 24 w' w.heap.size (fun _ => True) v5 x5_1) ∧ Aside0 (Below w.heap.size w w'))
 case atStart => exact ⟨(([] : List (S24))), (0), (0), (by first | rfl | (simp; done) | (simp [*]; done)), (by first | rfl | (simp; done) | (simp [*]; done)), H', ⟨Nat.le_refl _⟩, ⟨by first | exact Kd.R_nil _ _ _ _ _ | exact Kd.N_nil _ _ _ _ _ | exact Kd.V_nil _ _ _ _ _ | exact Kd.Q_nil _ _ _ _ _ | exact Kd.S_nil _ _ _ _ _⟩, ⟨by repeat (first | (with_reducible first | exact HB.out | apply below_alloc | apply pw_below_drewN | apply below_drew1) | exact HB.out)⟩⟩
 case round =>
  clear H'
  try clear c1
  obtain ⟨x5_1, x6_1, x7_1, rfl, rfl, HA, HK1, HO_5, HB⟩ := hrel
  cases gk with
  | zero => exact absurd HA.out (by simp [lockkeeperref24_Split.l0])
  | succ k1 =>
   have H := HA.out
   clear HA
   simp only [lockkeeperref24_Split.l0] at H
   by_cases c2 : x7_1 < (a0.size : Int)
   ·rw [if_pos c2] at H
    have c2b0 : decide (x7_1 < (a0.size : Int)) = true := decide_eq_true c2
    clear c2
    by_cases c3 : 0 ≤ x7_1
    ·rw [if_pos c3] at H
     have c3b0 : decide (0 ≤ x7_1) = true := decide_eq_true c3
     clear c3
     by_cases c5 : (bt a0 x7_1) = 10
     ·rw [if_pos c5] at H
      have c5b0 : ((bt a0 x7_1) == 10) = true := beq_iff_eq.mpr c5
      have c5b1 : ((bt a0 x7_1) != 10) = false := bne_eq_false_iff_eq.mpr c5
      clear c5
      by_cases c6 : 0 ≤ x6_1
      ·rw [if_pos c6] at H
       have c6b0 := eq_true c6
       have c6b1 : decide (0 ≤ x6_1) = true := decide_eq_true c6
       clear c6
       by_cases c7 : x6_1 ≤ x7_1
       ·rw [if_pos c7] at H
        have c7b0 := eq_true c7
        have c7b1 : decide (x6_1 ≤ x7_1) = true := decide_eq_true c7
        clear c7
        by_cases c8 : x7_1 ≤ (a0.size : Int)
        ·rw [if_pos c8] at H
         have c8b0 := eq_true c8
         have c8b1 : decide (x7_1 ≤ (a0.size : Int)) = true := decide_eq_true c8
         clear c8
         replace H := Option.bind_eq_some_iff.mp H
         obtain ⟨⟨t255, t256, t257, t258, t259, t260, t261, t262⟩, A90, H⟩ := H
         replace H : (if t262 = 0 then (if x5_1.length < 2513169434916 then (lockkeeperref24_Split.l0 k1 a0 (x5_1 ++ [(⟨t255, t256, t257, t258, t259, t260, t261⟩ : S24)]) (wrap64 (x7_1 + 1)) (wrap64 (x7_1 + 1))) else (none)) else (some (([] : List (S24)), wrap64 ((x5_1.length : Int) + 1), 3))) = some (r1, r2, r3) := H
         have A9 := Aside0.mk A90
         clear A90
         by_cases c10 : t262 = 0
         ·rw [if_pos c10] at H
          have c10b0 : (t262 == 0) = true := beq_iff_eq.mpr c10
          have c10b1 : (t262 != 0) = false := bne_eq_false_iff_eq.mpr c10
          clear c10
          by_cases c11 : x5_1.length < 2513169434916
          ·rw [if_pos c11] at H
           have LMc11 := Aside0.mk c11
           clear c11
           obtain ⟨y264, hy264⟩ : ∃ y_ : List (S24), y_ = (x5_1 ++ [(⟨t255, t256, t257, t258, t259, t260, t261⟩ : S24)]) := ⟨_, rfl⟩
           replace H : (lockkeeperref24_Split.l0 k1 a0 y264 (wrap64 (x7_1 + 1)) (wrap64 (x7_1 + 1))) = some (r1, r2, r3) := by first | (rw [hy264]; with_reducible exact H) | (have H2_ := (Option.bind_some _ _).symm.trans H; rw [hy264]; with_reducible exact H2_) | (have H2_ := (Option.bind_some _ _).symm.trans H; with_reducible exact H2_) | with_reducible exact H | (rw [hy264]; exact H) | exact H
           have Ny264 := Aside0.mk hy264
           clear hy264
           have H' := Aside0.mk H
           clear H
           have p4 : 0 ≤ (x7_1 : Int) := of_decide_eq_true (by first | (with_reducible assumption) | assumption)
           have q4 : x7_1 < (a0.size : Int) := of_decide_eq_true (by first | (with_reducible assumption) | assumption)
           have hx4 := bt_at a0 x7_1
           replace p4 := eq_true p4
           replace q4 := eq_true q4
           go_wp2_with (first | ((with_reducible refine gate_callee (f := 14) rfl ?_); refine goesL_ (some 25) rfl rfl Tryd.func14 (by kernel_rfl) rfl #[.string (a0.extract (x6_1 : Int).toNat (x7_1 : Int).toNat)] rfl (by (try simp only [List.map_toArray, List.map_cons, List.map_nil]); first | done | rfl | (simp only [List.length_drop, List.length_take]; rfl)) ?_; (with_reducible refine (lockkeeperref24_Read.calls k1 (a0.extract (x6_1 : Int).toNat (x7_1 : Int).toNat) t255 t256 t257 t258 t259 t260 t261 t262 _ A9.out).mono ?_); rintro e w12 ⟨rfl, hb⟩; refine ⟨_, rfl, ?_⟩; have n0_ := Aside0.mk (Kd.R_below (by (with_reducible repeat (first | apply Kd.R_alloc | apply Kd.R_drewN | apply Kd.R_drew)); exact HO_5.out) hb); have n1_ := Aside0.mk (below_step (by repeat (first | (with_reducible first | exact HB.out | apply below_alloc | apply pw_below_drewN | apply below_drew1) | exact HB.out)) hb); clear HO_5; clear HB; have HO_5 := n0_; have HB := n1_; clear n0_ n1_; (try clear hb); (try clear hb2); (try clear hk); (try clear hi)) | ((with_reducible refine gate_dst (N := 8) rfl ?_); refine box_event ?hg (N := 8) ?hd (cs := #[.int .i64 0, .int .u64 0, .int .i64 0, .int .i64 0, .int .i64 0, .int .i64 0, .int .i64 0]) (t := 24) ?hr ?_; (case hd => rfl); (case hg => rfl); (case hr => first | (go_simp; done) | (go_simp; rfl)); intro gb263 hg w13 hbox hb; have n0_ := Aside0.mk (Kd.R_below (Kd.R_elderB (by (with_reducible repeat (first | apply Kd.R_alloc | apply Kd.R_drewN | apply Kd.R_drew)); exact HO_5.out) gb263 (Nat.le_of_eq hg.symm)) hb); have n1_ := Aside0.mk (below_step (by repeat (first | (with_reducible first | exact HB.out | apply below_alloc | apply pw_below_drewN | apply below_drew1) | exact HB.out)) hb); have n2_ := Aside0.mk (hbox); have n3_ := Aside0.mk ((by rw [hg]; exact (below_size (by repeat (first | (with_reducible first | exact HB.out | apply below_alloc | apply pw_below_drewN | apply below_drew1) | exact HB.out))) : w.heap.size ≤ gb263)); have n4_ := Aside0.mk ((by rw [hg]; exact (below_size (by repeat (first | (with_reducible first | exact HB.out | apply below_alloc | apply pw_below_drewN | apply below_drew1) | exact HB.out))) : w.heap.size ≤ gb263)); clear HO_5; clear HB; have HO_5 := n0_; have HB := n1_; have BK263 := n2_; have GW263 := n3_; have GE263 := n4_; clear n0_ n1_ n2_ n3_ n4_; clear hb hbox hg; have hcz14_0 : w13.cell? ⟨gb263, 0, none⟩ = some (.int .i64 0) := (blk_cell BK263.out 0).trans rfl; have hcz14_1 : w13.cell? ⟨gb263, 1, none⟩ = some (.int .u64 0) := (blk_cell BK263.out 1).trans rfl; have hcz14_2 : w13.cell? ⟨gb263, 2, none⟩ = some (.int .i64 0) := (blk_cell BK263.out 2).trans rfl; have hcz14_3 : w13.cell? ⟨gb263, 3, none⟩ = some (.int .i64 0) := (blk_cell BK263.out 3).trans rfl; have hcz14_4 : w13.cell? ⟨gb263, 4, none⟩ = some (.int .i64 0) := (blk_cell BK263.out 4).trans rfl; have hcz14_5 : w13.cell? ⟨gb263, 5, none⟩ = some (.int .i64 0) := (blk_cell BK263.out 5).trans rfl; have hcz14_6 : w13.cell? ⟨gb263, 6, none⟩ = some (.int .i64 0) := (blk_cell BK263.out 6).trans rfl; have hfz14_0 := blk_frozen BK263.out 0; have hfz14_1 := blk_frozen BK263.out 1; have hfz14_2 := blk_frozen BK263.out 2; have hfz14_3 := blk_frozen BK263.out 3; have hfz14_4 := blk_frozen BK263.out 4; have hfz14_5 := blk_frozen BK263.out 5; have hfz14_6 := blk_frozen BK263.out 6) | ((with_reducible refine gate_builtin (b := .append) (xs := #[.tmp 33, .tmp 35]) rfl ?_); at_builtin; refine Kd.R_append k24 (w0 := w) w.heap.size rfl (.tmp 33) (.tmp 35) 36 24 (.agg #[(.int .i64 0), (.int .u64 0), (.int .i64 0), (.int .i64 0), (.int .i64 0), (.int .i64 0), (.int .i64 0)]) 56 rfl Tryd.underlying36 info24 rfl (by decide) (by omega) u5 x5_1 (⟨t255, t256, t257, t258, t259, t260, t261⟩ : S24) [.int .i64 t255, .int .u64 t256, .int .i64 t257, .int .i64 t258, .int .i64 t259, .int .i64 t260, .int .i64 t261] (fun k_ => k_ ≠ gb263) (fun _ => False) rfl (by first | (go_simp; done) | (go_simp; rfl)) ?aP (fun _ hk => hk.elim) ?aF ?aO ?aB ?aS ?aL ?_; (case aP => exact k24_mkM _ _ _ (⟨t255, t256, t257, t258, t259, t260, t261⟩ : S24)); (case aB => exact (by repeat (first | (with_reducible first | exact HB.out | apply below_alloc | apply pw_below_drewN | apply below_drew1 | refine below_set ?_ GE263.out) | exact HB.out))); (case aF => exact (fun k_ hk => Kd.freshB (g := gb263) (o := .cells #[.int .i64 t255, .int .u64 t256, .int .i64 t257, .int .i64 t258, .int .i64 t259, .int .i64 t260, .int .i64 t261] 24 (0, 0)) (by (with_reducible repeat (first | refine blk_drewN ?_ _ | refine blk_drew ?_ | refine blk_alloc ?_ _)); refine blk_put (cs := #[.int .i64 t255, .int .u64 t256, .int .i64 t257, .int .i64 t258, .int .i64 t259, .int .i64 t260, .int .i64 0]) ?_ 6 _ rfl; (with_reducible repeat (first | refine blk_drewN ?_ _ | refine blk_drew ?_ | refine blk_alloc ?_ _)); refine blk_put (cs := #[.int .i64 t255, .int .u64 t256, .int .i64 t257, .int .i64 t258, .int .i64 t259, .int .i64 0, .int .i64 0]) ?_ 5 _ rfl; (with_reducible repeat (first | refine blk_drewN ?_ _ | refine blk_drew ?_ | refine blk_alloc ?_ _)); refine blk_put (cs := #[.int .i64 t255, .int .u64 t256, .int .i64 t257, .int .i64 t258, .int .i64 0, .int .i64 0, .int .i64 0]) ?_ 4 _ rfl; (with_reducible repeat (first | refine blk_drewN ?_ _ | refine blk_drew ?_ | refine blk_alloc ?_ _)); refine blk_put (cs := #[.int .i64 t255, .int .u64 t256, .int .i64 t257, .int .i64 0, .int .i64 0, .int .i64 0, .int .i64 0]) ?_ 3 _ rfl; (with_reducible repeat (first | refine blk_drewN ?_ _ | refine blk_drew ?_ | refine blk_alloc ?_ _)); refine blk_put (cs := #[.int .i64 t255, .int .u64 t256, .int .i64 0, .int .i64 0, .int .i64 0, .int .i64 0, .int .i64 0]) ?_ 2 _ rfl; (with_reducible repeat (first | refine blk_drewN ?_ _ | refine blk_drew ?_ | refine blk_alloc ?_ _)); refine blk_put (cs := #[.int .i64 t255, .int .u64 0, .int .i64 0, .int .i64 0, .int .i64 0, .int .i64 0, .int .i64 0]) ?_ 1 _ rfl; (with_reducible repeat (first | refine blk_drewN ?_ _ | refine blk_drew ?_ | refine blk_alloc ?_ _)); refine blk_put (cs := #[.int .i64 0, .int .u64 0, .int .i64 0, .int .i64 0, .int .i64 0, .int .i64 0, .int .i64 0]) ?_ 0 _ rfl; (with_reducible repeat (first | refine blk_drewN ?_ _ | refine blk_drew ?_ | refine blk_alloc ?_ _)); exact BK263.out) k_ hk)); (case aO => exact (by (with_reducible repeat (first | apply Kd.R_alloc | apply Kd.R_drewN | apply Kd.R_drew)); exact Kd.R_mono (Kd.R_far (p := ⟨gb263, 6, none⟩) (Kd.R_far (p := ⟨gb263, 5, none⟩) (Kd.R_far (p := ⟨gb263, 4, none⟩) (Kd.R_far (p := ⟨gb263, 3, none⟩) (Kd.R_far (p := ⟨gb263, 2, none⟩) (Kd.R_far (p := ⟨gb263, 1, none⟩) (Kd.R_far (p := ⟨gb263, 0, none⟩) (Kd.R_mono HO_5.out (fun k_ hk => (⟨hk, hk.2⟩ : _ ∧ k_ ≠ gb263))) (fun _ hk => hk.2) (.int .i64 t255)) (fun _ hk => hk.2) (.int .u64 t256)) (fun _ hk => hk.2) (.int .i64 t257)) (fun _ hk => hk.2) (.int .i64 t258)) (fun _ hk => hk.2) (.int .i64 t259)) (fun _ hk => hk.2) (.int .i64 t260)) (fun _ hk => hk.2) (.int .i64 t261)) (fun _ hk => hk.1.2))); (case aS => exact (below_size (by repeat (first | (with_reducible first | exact HB.out | apply below_alloc | apply pw_below_drewN | apply below_drew1 | refine below_set ?_ GE263.out) | exact HB.out)))); (case aL => have := LMc11.out; omega); intro v265 w15 ho hb hg hat; rw [← Ny264.out] at ho; have n0_ := Aside0.mk (blk_grown (g := gb263) (o := .cells #[.int .i64 t255, .int .u64 t256, .int .i64 t257, .int .i64 t258, .int .i64 t259, .int .i64 t260, .int .i64 t261] 24 (0, 0)) (by (with_reducible repeat (first | refine blk_drewN ?_ _ | refine blk_drew ?_ | refine blk_alloc ?_ _)); refine blk_put (cs := #[.int .i64 t255, .int .u64 t256, .int .i64 t257, .int .i64 t258, .int .i64 t259, .int .i64 t260, .int .i64 0]) ?_ 6 _ rfl; (with_reducible repeat (first | refine blk_drewN ?_ _ | refine blk_drew ?_ | refine blk_alloc ?_ _)); refine blk_put (cs := #[.int .i64 t255, .int .u64 t256, .int .i64 t257, .int .i64 t258, .int .i64 t259, .int .i64 0, .int .i64 0]) ?_ 5 _ rfl; (with_reducible repeat (first | refine blk_drewN ?_ _ | refine blk_drew ?_ | refine blk_alloc ?_ _)); refine blk_put (cs := #[.int .i64 t255, .int .u64 t256, .int .i64 t257, .int .i64 t258, .int .i64 0, .int .i64 0, .int .i64 0]) ?_ 4 _ rfl; (with_reducible repeat (first | refine blk_drewN ?_ _ | refine blk_drew ?_ | refine blk_alloc ?_ _)); refine blk_put (cs := #[.int .i64 t255, .int .u64 t256, .int .i64 t257, .int .i64 0, .int .i64 0, .int .i64 0, .int .i64 0]) ?_ 3 _ rfl; (with_reducible repeat (first | refine blk_drewN ?_ _ | refine blk_drew ?_ | refine blk_alloc ?_ _)); refine blk_put (cs := #[.int .i64 t255, .int .u64 t256, .int .i64 0, .int .i64 0, .int .i64 0, .int .i64 0, .int .i64 0]) ?_ 2 _ rfl; (with_reducible repeat (first | refine blk_drewN ?_ _ | refine blk_drew ?_ | refine blk_alloc ?_ _)); refine blk_put (cs := #[.int .i64 t255, .int .u64 0, .int .i64 0, .int .i64 0, .int .i64 0, .int .i64 0, .int .i64 0]) ?_ 1 _ rfl; (with_reducible repeat (first | refine blk_drewN ?_ _ | refine blk_drew ?_ | refine blk_alloc ?_ _)); refine blk_put (cs := #[.int .i64 0, .int .u64 0, .int .i64 0, .int .i64 0, .int .i64 0, .int .i64 0, .int .i64 0]) ?_ 0 _ rfl; (with_reducible repeat (first | refine blk_drewN ?_ _ | refine blk_drew ?_ | refine blk_alloc ?_ _)); exact BK263.out) hg (Kd.R_away HO_5.out (fun _ hk => hk.2))); have n1_ := Aside0.mk (hb); have n2_ := Aside0.mk (ho); clear BK263; clear HB; clear HO_5; have BK263 := n0_; have HB := n1_; have HO266 := n2_; clear n0_ n1_ n2_; clear ho hb hg hat))
           go_roundg k1
           case measure => have := HK1.out; omega
           case rel => exact ⟨(y264), (wrap64 (x7_1 + 1)), (wrap64 (x7_1 + 1)), (by first | rfl | (simp; done) | (simp [*]; done)), (by first | rfl | (simp; done) | (simp [*]; done)), H', ⟨by have := HK1.out; omega⟩, ⟨by (with_reducible repeat (first | apply Kd.R_alloc | apply Kd.R_drewN | apply Kd.R_drew)); exact Kd.R_mono HO266.out (fun _ hk => trivial)⟩, ⟨by repeat (first | (with_reducible first | exact HB.out | apply below_alloc | apply pw_below_drewN | apply below_drew1 | refine below_set ?_ GE263.out) | exact HB.out)⟩⟩
          ·rw [if_neg c11] at H
           exact absurd H (by simp)
         ·rw [if_neg c10] at H
          have c10b0 : (t262 == 0) = false := beq_eq_false_iff_ne.mpr c10
          have c10b1 : (t262 != 0) = true := bne_iff_ne.mpr c10
          simp only [Option.some.injEq, Prod.mk.injEq] at H
          obtain ⟨rfl, rfl, rfl⟩ := H
          have p4 : 0 ≤ (x7_1 : Int) := of_decide_eq_true (by first | (with_reducible assumption) | assumption)
          have q4 : x7_1 < (a0.size : Int) := of_decide_eq_true (by first | (with_reducible assumption) | assumption)
          have hx4 := bt_at a0 x7_1
          replace p4 := eq_true p4
          replace q4 := eq_true q4
          go_wp2_with (first | ((with_reducible refine gate_callee (f := 14) rfl ?_); refine goesL_ (some 25) rfl rfl Tryd.func14 (by kernel_rfl) rfl #[.string (a0.extract (x6_1 : Int).toNat (x7_1 : Int).toNat)] rfl (by (try simp only [List.map_toArray, List.map_cons, List.map_nil]); first | done | rfl | (simp only [List.length_drop, List.length_take]; rfl)) ?_; (with_reducible refine (lockkeeperref24_Read.calls k1 (a0.extract (x6_1 : Int).toNat (x7_1 : Int).toNat) t255 t256 t257 t258 t259 t260 t261 t262 _ A9.out).mono ?_); rintro e w16 ⟨rfl, hb⟩; refine ⟨_, rfl, ?_⟩; have n0_ := Aside0.mk (Kd.R_below (by (with_reducible repeat (first | apply Kd.R_alloc | apply Kd.R_drewN | apply Kd.R_drew)); exact HO_5.out) hb); have n1_ := Aside0.mk (below_step (by repeat (first | (with_reducible first | exact HB.out | apply below_alloc | apply pw_below_drewN | apply below_drew1) | exact HB.out)) hb); clear HO_5; clear HB; have HO_5 := n0_; have HB := n1_; clear n0_ n1_; (try clear hb); (try clear hb2); (try clear hk); (try clear hi)) | ((with_reducible refine gate_dst (N := 8) rfl ?_); refine box_event ?hg (N := 8) ?hd (cs := #[.int .i64 0, .int .u64 0, .int .i64 0, .int .i64 0, .int .i64 0, .int .i64 0, .int .i64 0]) (t := 24) ?hr ?_; (case hd => rfl); (case hg => rfl); (case hr => first | (go_simp; done) | (go_simp; rfl)); intro gb263 hg w17 hbox hb; have n0_ := Aside0.mk (Kd.R_below (Kd.R_elderB (by (with_reducible repeat (first | apply Kd.R_alloc | apply Kd.R_drewN | apply Kd.R_drew)); exact HO_5.out) gb263 (Nat.le_of_eq hg.symm)) hb); have n1_ := Aside0.mk (below_step (by repeat (first | (with_reducible first | exact HB.out | apply below_alloc | apply pw_below_drewN | apply below_drew1) | exact HB.out)) hb); have n2_ := Aside0.mk (hbox); have n3_ := Aside0.mk ((by rw [hg]; exact (below_size (by repeat (first | (with_reducible first | exact HB.out | apply below_alloc | apply pw_below_drewN | apply below_drew1) | exact HB.out))) : w.heap.size ≤ gb263)); have n4_ := Aside0.mk ((by rw [hg]; exact (below_size (by repeat (first | (with_reducible first | exact HB.out | apply below_alloc | apply pw_below_drewN | apply below_drew1) | exact HB.out))) : w.heap.size ≤ gb263)); clear HO_5; clear HB; have HO_5 := n0_; have HB := n1_; have BK263 := n2_; have GW263 := n3_; have GE263 := n4_; clear n0_ n1_ n2_ n3_ n4_; clear hb hbox hg; have hcz18_0 : w17.cell? ⟨gb263, 0, none⟩ = some (.int .i64 0) := (blk_cell BK263.out 0).trans rfl; have hcz18_1 : w17.cell? ⟨gb263, 1, none⟩ = some (.int .u64 0) := (blk_cell BK263.out 1).trans rfl; have hcz18_2 : w17.cell? ⟨gb263, 2, none⟩ = some (.int .i64 0) := (blk_cell BK263.out 2).trans rfl; have hcz18_3 : w17.cell? ⟨gb263, 3, none⟩ = some (.int .i64 0) := (blk_cell BK263.out 3).trans rfl; have hcz18_4 : w17.cell? ⟨gb263, 4, none⟩ = some (.int .i64 0) := (blk_cell BK263.out 4).trans rfl; have hcz18_5 : w17.cell? ⟨gb263, 5, none⟩ = some (.int .i64 0) := (blk_cell BK263.out 5).trans rfl; have hcz18_6 : w17.cell? ⟨gb263, 6, none⟩ = some (.int .i64 0) := (blk_cell BK263.out 6).trans rfl; have hfz18_0 := blk_frozen BK263.out 0; have hfz18_1 := blk_frozen BK263.out 1; have hfz18_2 := blk_frozen BK263.out 2; have hfz18_3 := blk_frozen BK263.out 3; have hfz18_4 := blk_frozen BK263.out 4; have hfz18_5 := blk_frozen BK263.out 5; have hfz18_6 := blk_frozen BK263.out 6; obtain ⟨Ao19, co19, eo19⟩ := Kd.R_slice HO_5.out; subst eo19))
          go_ret3
          exact ⟨_, by first | rfl | (simp [errW_none, errW_some] <;> rfl) | (simp [*, errW_none, errW_some] <;> rfl), by first | exact Kd.R_nil _ _ _ _ _ | exact Kd.N_nil _ _ _ _ _ | exact Kd.V_nil _ _ _ _ _ | exact Kd.Q_nil _ _ _ _ _ | exact Kd.S_nil _ _ _ _ _, by repeat (first | (with_reducible first | exact HB.out | apply below_alloc | apply pw_below_drewN | apply below_drew1 | refine below_set ?_ GE263.out) | exact HB.out)⟩
        ·rw [if_neg c8] at H
         exact absurd H (by simp)
       ·rw [if_neg c7] at H
        exact absurd H (by simp)
      ·rw [if_neg c6] at H
       exact absurd H (by simp)
     ·rw [if_neg c5] at H
      have c5b0 : ((bt a0 x7_1) == 10) = false := beq_eq_false_iff_ne.mpr c5
      have c5b1 : ((bt a0 x7_1) != 10) = true := bne_iff_ne.mpr c5
      have H' := Aside0.mk H
      clear H
      have p4 : 0 ≤ (x7_1 : Int) := of_decide_eq_true (by first | (with_reducible assumption) | assumption)
      have q4 : x7_1 < (a0.size : Int) := of_decide_eq_true (by first | (with_reducible assumption) | assumption)
      have hx4 := bt_at a0 x7_1
      replace p4 := eq_true p4
      replace q4 := eq_true q4
      go_wp2
      go_roundg k1
      case measure => have := HK1.out; omega
      case rel => exact ⟨(x5_1), (x6_1), (wrap64 (x7_1 + 1)), (by first | rfl | (simp; done) | (simp [*]; done)), (by first | rfl | (simp; done) | (simp [*]; done)), H', ⟨by have := HK1.out; omega⟩, ⟨by (with_reducible repeat (first | apply Kd.R_alloc | apply Kd.R_drewN | apply Kd.R_drew)); exact HO_5.out⟩, ⟨by repeat (first | (with_reducible first | exact HB.out | apply below_alloc | apply pw_below_drewN | apply below_drew1) | exact HB.out)⟩⟩
    ·rw [if_neg c3] at H
     exact absurd H (by simp)
   ·rw [if_neg c2] at H
    have c2b0 : decide (x7_1 < (a0.size : Int)) = false := decide_eq_false c2
    clear c2
    by_cases c20 : x6_1 < (a0.size : Int)
    ·rw [if_pos c20] at H
     have c20b0 : decide (x6_1 < (a0.size : Int)) = true := decide_eq_true c20
     clear c20
     simp only [Option.some.injEq, Prod.mk.injEq] at H
     obtain ⟨rfl, rfl, rfl⟩ := H
     obtain ⟨Ao21, co21, eo21⟩ := Kd.R_slice HO_5.out
     subst eo21
     go_wp2
     go_ret3
     exact ⟨_, by first | rfl | (simp [errW_none, errW_some] <;> rfl) | (simp [*, errW_none, errW_some] <;> rfl), by first | exact Kd.R_nil _ _ _ _ _ | exact Kd.N_nil _ _ _ _ _ | exact Kd.V_nil _ _ _ _ _ | exact Kd.Q_nil _ _ _ _ _ | exact Kd.S_nil _ _ _ _ _, by repeat (first | (with_reducible first | exact HB.out | apply below_alloc | apply pw_below_drewN | apply below_drew1) | exact HB.out)⟩
    ·rw [if_neg c20] at H
     have c20b0 : decide (x6_1 < (a0.size : Int)) = false := decide_eq_false c20
     clear c20
     simp only [Option.some.injEq, Prod.mk.injEq] at H
     obtain ⟨rfl, rfl, rfl⟩ := H
     go_wp2
     go_ret3
     exact ⟨_, by first | rfl | (simp [errW_none, errW_some] <;> rfl) | (simp [*, errW_none, errW_some] <;> rfl), by (with_reducible repeat (first | apply Kd.R_alloc | apply Kd.R_drewN | apply Kd.R_drew)); exact HO_5.out, by repeat (first | (with_reducible first | exact HB.out | apply below_alloc | apply pw_below_drewN | apply below_drew1) | exact HB.out)⟩

/-! ### lockkeeperref24_Name: function 21 -/
def lockkeeperref24_Name.f (a0 : Int) : Option (ByteArray) := if a0 < 1 then (some (⟨#[]⟩ : ByteArray)) else (if a0 > 18 then (some (⟨#[]⟩ : ByteArray)) else ((lockkeeperref24_Names.f).bind fun t267 => (if 0 ≤ (wrap64 (a0 - 1)) then (if (wrap64 (a0 - 1)) < (t267.length : Int) then (some (rdOf ByteArray.empty t267 (wrap64 (a0 - 1)))) else (none)) else (none))))
set_option maxHeartbeats 8000000 in
set_option maxRecDepth 100000 in
theorem lockkeeperref24_Name.calls (a0 : Int) (r : ByteArray) (w : World) (h : lockkeeperref24_Name.f a0 = some r) :
  Calls Tryd.prog 21 #[.int .i64 a0] w fun e w' => e = .returned (.string r) ∧ Below w.heap.size w w' := by
 have HB := Aside0.mk (Below.refl w.heap.size w)
 have H : (if a0 < 1 then (some (⟨#[]⟩ : ByteArray)) else (if a0 > 18 then (some (⟨#[]⟩ : ByteArray)) else ((lockkeeperref24_Names.f).bind fun t267 => (if 0 ≤ (wrap64 (a0 - 1)) then (if (wrap64 (a0 - 1)) < (t267.length : Int) then (some (rdOf ByteArray.empty t267 (wrap64 (a0 - 1)))) else (none)) else (none))))) = some r := h
 clear h
 by_cases c2 : a0 < 1
 ·rw [if_pos c2] at H
  have c2b0 : decide (a0 < 1) = true := decide_eq_true c2
  clear c2
  obtain rfl := Option.some.inj H
  go_enter Tryd.func21, Tryd.ntmps21
  go_wp2
  go_ret
  exact ⟨by first | rfl | (simp [errW_none, errW_some] <;> rfl) | (simp [*, errW_none, errW_some] <;> rfl), by repeat (first | (with_reducible first | exact HB.out | apply below_alloc | apply pw_below_drewN | apply below_drew1) | exact HB.out)⟩
 ·rw [if_neg c2] at H
  have c2b0 : decide (a0 < 1) = false := decide_eq_false c2
  clear c2
  by_cases c3 : a0 > 18
  ·rw [if_pos c3] at H
   have c3b0 : decide (18 < a0) = true := decide_eq_true c3
   clear c3
   obtain rfl := Option.some.inj H
   go_enter Tryd.func21, Tryd.ntmps21
   go_wp2
   go_ret
   exact ⟨by first | rfl | (simp [errW_none, errW_some] <;> rfl) | (simp [*, errW_none, errW_some] <;> rfl), by repeat (first | (with_reducible first | exact HB.out | apply below_alloc | apply pw_below_drewN | apply below_drew1) | exact HB.out)⟩
  ·rw [if_neg c3] at H
   have c3b0 : decide (18 < a0) = false := decide_eq_false c3
   clear c3
   replace H := Option.bind_eq_some_iff.mp H
   obtain ⟨t267, A40, H⟩ := H
   replace H : (if 0 ≤ (wrap64 (a0 - 1)) then (if (wrap64 (a0 - 1)) < (t267.length : Int) then (some (rdOf ByteArray.empty t267 (wrap64 (a0 - 1)))) else (none)) else (none)) = some r := H
   have A4 := Aside0.mk A40
   clear A40
   obtain ⟨ji5, hji5⟩ : ∃ j_ : Int, (wrap64 (a0 - 1)) = j_ := ⟨_, rfl⟩
   replace H : (if 0 ≤ (ji5) then (if (ji5) < (t267.length : Int) then (some (rdOf ByteArray.empty t267 (ji5))) else (none)) else (none)) = some r := by first | (rw [hji5] at H; exact H) | (simp only [hji5] at H ⊢; exact H)
   (try rw [hji5] at A4)
   have hji5w : (IntKind.i64.wrap (a0 - 1)) = ji5 := (i64_w _).trans hji5
   by_cases c6 : 0 ≤ (ji5)
   ·rw [if_pos c6] at H
    have c6b0 : decide (0 ≤ (ji5)) = true := decide_eq_true c6
    clear c6
    by_cases c7 : (ji5) < (t267.length : Int)
    ·rw [if_pos c7] at H
     have c7b0 : decide ((ji5) < (t267.length : Int)) = true := decide_eq_true c7
     clear c7
     obtain rfl := Option.some.inj H
     go_enter Tryd.func21, Tryd.ntmps21
     go_wp2_with (first | ((with_reducible refine gate_callee (f := 35) rfl ?_); refine goesL_ (some 9) rfl rfl Tryd.func35 (by kernel_rfl) rfl #[] rfl (by (try simp only [List.map_toArray, List.map_cons, List.map_nil]); first | done | rfl | (simp only [List.length_drop, List.length_take]; rfl)) ?_; (with_reducible refine (lockkeeperref24_Names.calls  t267 _ A4.out).mono ?_); rintro e w8 ⟨v268, rfl, ho0, hb⟩; refine ⟨_, rfl, ?_⟩; have n0_ := Aside0.mk (Kd.R_lower ho0 (below_size (by repeat (first | (with_reducible first | exact HB.out | apply below_alloc | apply pw_below_drewN | apply below_drew1) | exact HB.out)))); have n1_ := Aside0.mk (below_step (by repeat (first | (with_reducible first | exact HB.out | apply below_alloc | apply pw_below_drewN | apply below_drew1) | exact HB.out)) hb); clear HB; have HO269 := n0_; have HB := n1_; clear n0_ n1_; (try clear hb); (try clear hb2); (try clear hk); (try clear hi); (try clear ho0); obtain ⟨Ao9, co9, eo9⟩ := Kd.R_slice HO269.out; subst eo9; have p270 : 0 ≤ ((ji5) : Int) := of_decide_eq_true (by first | (with_reducible assumption) | assumption); have q270 : (ji5) < (t267.length : Int) := of_decide_eq_true (by first | (with_reducible assumption) | assumption); obtain ⟨ad270, e270, hx270_0⟩ := Kd.at_string (Kd.R_reads' HO269.out).2.2 (ji5) p270 q270; cases e270; replace p270 := eq_true p270; replace q270 := eq_true q270))
     go_ret
     exact ⟨by first | rfl | (simp [errW_none, errW_some] <;> rfl) | (simp only [← hji5]; first | rfl | (simp [errW_none, errW_some] <;> rfl)) | (simp [*, errW_none, errW_some] <;> rfl), by repeat (first | (with_reducible first | exact HB.out | apply below_alloc | apply pw_below_drewN | apply below_drew1) | exact HB.out)⟩
    ·rw [if_neg c7] at H
     exact absurd H (by simp)
   ·rw [if_neg c6] at H
    exact absurd H (by simp)

/-! ### lockkeeperref24_Check: function 17 -/
def lockkeeperref24_Check.f (a0_0 : Int) (a0_1 : Int) (a0_2 : Int) (a0_3 : Int) (a0_4 : Int) (a0_5 : Int) (a0_6 : Int) : Option (Bool) := (lockkeeperref24_Name.f a0_2).bind fun t272 => (if t272.toList = ([] : List UInt8) then (some false) else (if a0_0 ≥ 0 then (if a0_3 ≥ 0 then (if a0_4 ≥ 0 then (if a0_5 ≥ 0 then (some (decide (a0_6 ≥ 0))) else (some false)) else (some false)) else (some false)) else (some false)))
set_option maxHeartbeats 8000000 in
set_option maxRecDepth 100000 in
theorem lockkeeperref24_Check.calls (a0_0 : Int) (a0_1 : Int) (a0_2 : Int) (a0_3 : Int) (a0_4 : Int) (a0_5 : Int) (a0_6 : Int) (r : Bool) (w : World) (h : lockkeeperref24_Check.f a0_0 a0_1 a0_2 a0_3 a0_4 a0_5 a0_6 = some r) :
  Calls Tryd.prog 17 #[.agg #[.int .i64 a0_0, .int .u64 a0_1, .int .i64 a0_2, .int .i64 a0_3, .int .i64 a0_4, .int .i64 a0_5, .int .i64 a0_6]] w fun e w' => e = .returned (.bool r) ∧ Below w.heap.size w w' := by
 have hu24 := Tryd.underlying24
 have HB := Aside0.mk (Below.refl w.heap.size w)
 have H : ((lockkeeperref24_Name.f a0_2).bind fun t272 => (if t272.toList = ([] : List UInt8) then (some false) else (if a0_0 ≥ 0 then (if a0_3 ≥ 0 then (if a0_4 ≥ 0 then (if a0_5 ≥ 0 then (some (decide (a0_6 ≥ 0))) else (some false)) else (some false)) else (some false)) else (some false)))) = some r := h
 clear h
 replace H := Option.bind_eq_some_iff.mp H
 obtain ⟨t272, A20, H⟩ := H
 replace H : (if t272.toList = ([] : List UInt8) then (some false) else (if a0_0 ≥ 0 then (if a0_3 ≥ 0 then (if a0_4 ≥ 0 then (if a0_5 ≥ 0 then (some (decide (a0_6 ≥ 0))) else (some false)) else (some false)) else (some false)) else (some false))) = some r := H
 have A2 := Aside0.mk A20
 clear A20
 by_cases c3 : t272.toList = ([] : List UInt8)
 ·rw [if_pos c3] at H
  have c3b0 : (t272.toList == ([] : List UInt8)) = true := beq_iff_eq.mpr c3
  have c3b1 : (t272.toList != ([] : List UInt8)) = false := bne_eq_false_iff_eq.mpr c3
  clear c3
  obtain rfl := Option.some.inj H
  go_enter Tryd.func17, Tryd.ntmps17
  go_wp2_with (first | ((with_reducible refine gate_dst (N := 1) rfl ?_); refine box_event ?hg (N := 1) ?hd (cs := #[.int .i64 a0_0, .int .u64 a0_1, .int .i64 a0_2, .int .i64 a0_3, .int .i64 a0_4, .int .i64 a0_5, .int .i64 a0_6]) (t := 24) ?hr ?_; (case hd => rfl); (case hg => rfl); (case hr => first | (go_simp; done) | (go_simp; rfl)); intro gb271 hg w4 hbox hb; have n0_ := Aside0.mk (below_step (by repeat (first | (with_reducible first | exact HB.out | apply below_alloc | apply pw_below_drewN | apply below_drew1) | exact HB.out)) hb); have n1_ := Aside0.mk (hbox); have n2_ := Aside0.mk ((by rw [hg]; exact (below_size (by repeat (first | (with_reducible first | exact HB.out | apply below_alloc | apply pw_below_drewN | apply below_drew1) | exact HB.out))) : w.heap.size ≤ gb271)); have n3_ := Aside0.mk ((by rw [hg]; exact (below_size (by repeat (first | (with_reducible first | exact HB.out | apply below_alloc | apply pw_below_drewN | apply below_drew1) | exact HB.out))) : w.heap.size ≤ gb271)); clear HB; have HB := n0_; have BK271 := n1_; have GW271 := n2_; have GE271 := n3_; clear n0_ n1_ n2_ n3_; clear hb hbox hg; have hcz5_0 : w4.cell? ⟨gb271, 0, none⟩ = some (.int .i64 a0_0) := (blk_cell BK271.out 0).trans rfl; have hcz5_1 : w4.cell? ⟨gb271, 1, none⟩ = some (.int .u64 a0_1) := (blk_cell BK271.out 1).trans rfl; have hcz5_2 : w4.cell? ⟨gb271, 2, none⟩ = some (.int .i64 a0_2) := (blk_cell BK271.out 2).trans rfl; have hcz5_3 : w4.cell? ⟨gb271, 3, none⟩ = some (.int .i64 a0_3) := (blk_cell BK271.out 3).trans rfl; have hcz5_4 : w4.cell? ⟨gb271, 4, none⟩ = some (.int .i64 a0_4) := (blk_cell BK271.out 4).trans rfl; have hcz5_5 : w4.cell? ⟨gb271, 5, none⟩ = some (.int .i64 a0_5) := (blk_cell BK271.out 5).trans rfl; have hcz5_6 : w4.cell? ⟨gb271, 6, none⟩ = some (.int .i64 a0_6) := (blk_cell BK271.out 6).trans rfl; have hfz5_0 := blk_frozen BK271.out 0; have hfz5_1 := blk_frozen BK271.out 1; have hfz5_2 := blk_frozen BK271.out 2; have hfz5_3 := blk_frozen BK271.out 3; have hfz5_4 := blk_frozen BK271.out 4; have hfz5_5 := blk_frozen BK271.out 5; have hfz5_6 := blk_frozen BK271.out 6) | ((with_reducible refine gate_callee (f := 21) rfl ?_); refine goesL_ (some 5) rfl rfl Tryd.func21 (by kernel_rfl) rfl #[.int .i64 a0_2] rfl (by (try simp only [List.map_toArray, List.map_cons, List.map_nil]); first | done | rfl | (simp only [List.length_drop, List.length_take]; rfl)) ?_; (with_reducible refine (lockkeeperref24_Name.calls a0_2 t272 _ A2.out).mono ?_); rintro e w6 ⟨rfl, hb⟩; refine ⟨_, rfl, ?_⟩; have n0_ := Aside0.mk (blk_below (g := gb271) (o := .cells #[.int .i64 a0_0, .int .u64 a0_1, .int .i64 a0_2, .int .i64 a0_3, .int .i64 a0_4, .int .i64 a0_5, .int .i64 a0_6] 24 (0, 0)) (by (with_reducible repeat (first | refine blk_drewN ?_ _ | refine blk_drew ?_ | refine blk_alloc ?_ _)); exact BK271.out) hb); have n1_ := Aside0.mk (below_step (by repeat (first | (with_reducible first | exact HB.out | apply below_alloc | apply pw_below_drewN | apply below_drew1 | refine below_set ?_ GE271.out) | exact HB.out)) hb); clear BK271; clear HB; have BK271 := n0_; have HB := n1_; clear n0_ n1_; (try clear hb); (try clear hb2); (try clear hk); (try clear hi)))
  go_ret
  exact ⟨by first | rfl | (simp [errW_none, errW_some] <;> rfl) | (simp [*, errW_none, errW_some] <;> rfl), by repeat (first | (with_reducible first | exact HB.out | apply below_alloc | apply pw_below_drewN | apply below_drew1 | refine below_set ?_ GE271.out) | exact HB.out)⟩
 ·rw [if_neg c3] at H
  have c3b0 : (t272.toList == ([] : List UInt8)) = false := beq_eq_false_iff_ne.mpr c3
  have c3b1 : (t272.toList != ([] : List UInt8)) = true := bne_iff_ne.mpr c3
  by_cases c7 : a0_0 ≥ 0
  ·rw [if_pos c7] at H
   have c7b0 : decide (0 ≤ a0_0) = true := decide_eq_true c7
   clear c7
   by_cases c8 : a0_3 ≥ 0
   ·rw [if_pos c8] at H
    have c8b0 : decide (0 ≤ a0_3) = true := decide_eq_true c8
    clear c8
    by_cases c9 : a0_4 ≥ 0
    ·rw [if_pos c9] at H
     have c9b0 : decide (0 ≤ a0_4) = true := decide_eq_true c9
     clear c9
     by_cases c10 : a0_5 ≥ 0
     ·rw [if_pos c10] at H
      have c10b0 : decide (0 ≤ a0_5) = true := decide_eq_true c10
      clear c10
      obtain rfl := Option.some.inj H
      go_enter Tryd.func17, Tryd.ntmps17
      go_wp2_with (first | ((with_reducible refine gate_dst (N := 1) rfl ?_); refine box_event ?hg (N := 1) ?hd (cs := #[.int .i64 a0_0, .int .u64 a0_1, .int .i64 a0_2, .int .i64 a0_3, .int .i64 a0_4, .int .i64 a0_5, .int .i64 a0_6]) (t := 24) ?hr ?_; (case hd => rfl); (case hg => rfl); (case hr => first | (go_simp; done) | (go_simp; rfl)); intro gb271 hg w11 hbox hb; have n0_ := Aside0.mk (below_step (by repeat (first | (with_reducible first | exact HB.out | apply below_alloc | apply pw_below_drewN | apply below_drew1) | exact HB.out)) hb); have n1_ := Aside0.mk (hbox); have n2_ := Aside0.mk ((by rw [hg]; exact (below_size (by repeat (first | (with_reducible first | exact HB.out | apply below_alloc | apply pw_below_drewN | apply below_drew1) | exact HB.out))) : w.heap.size ≤ gb271)); have n3_ := Aside0.mk ((by rw [hg]; exact (below_size (by repeat (first | (with_reducible first | exact HB.out | apply below_alloc | apply pw_below_drewN | apply below_drew1) | exact HB.out))) : w.heap.size ≤ gb271)); clear HB; have HB := n0_; have BK271 := n1_; have GW271 := n2_; have GE271 := n3_; clear n0_ n1_ n2_ n3_; clear hb hbox hg; have hcz12_0 : w11.cell? ⟨gb271, 0, none⟩ = some (.int .i64 a0_0) := (blk_cell BK271.out 0).trans rfl; have hcz12_1 : w11.cell? ⟨gb271, 1, none⟩ = some (.int .u64 a0_1) := (blk_cell BK271.out 1).trans rfl; have hcz12_2 : w11.cell? ⟨gb271, 2, none⟩ = some (.int .i64 a0_2) := (blk_cell BK271.out 2).trans rfl; have hcz12_3 : w11.cell? ⟨gb271, 3, none⟩ = some (.int .i64 a0_3) := (blk_cell BK271.out 3).trans rfl; have hcz12_4 : w11.cell? ⟨gb271, 4, none⟩ = some (.int .i64 a0_4) := (blk_cell BK271.out 4).trans rfl; have hcz12_5 : w11.cell? ⟨gb271, 5, none⟩ = some (.int .i64 a0_5) := (blk_cell BK271.out 5).trans rfl; have hcz12_6 : w11.cell? ⟨gb271, 6, none⟩ = some (.int .i64 a0_6) := (blk_cell BK271.out 6).trans rfl; have hfz12_0 := blk_frozen BK271.out 0; have hfz12_1 := blk_frozen BK271.out 1; have hfz12_2 := blk_frozen BK271.out 2; have hfz12_3 := blk_frozen BK271.out 3; have hfz12_4 := blk_frozen BK271.out 4; have hfz12_5 := blk_frozen BK271.out 5; have hfz12_6 := blk_frozen BK271.out 6) | ((with_reducible refine gate_callee (f := 21) rfl ?_); refine goesL_ (some 5) rfl rfl Tryd.func21 (by kernel_rfl) rfl #[.int .i64 a0_2] rfl (by (try simp only [List.map_toArray, List.map_cons, List.map_nil]); first | done | rfl | (simp only [List.length_drop, List.length_take]; rfl)) ?_; (with_reducible refine (lockkeeperref24_Name.calls a0_2 t272 _ A2.out).mono ?_); rintro e w13 ⟨rfl, hb⟩; refine ⟨_, rfl, ?_⟩; have n0_ := Aside0.mk (blk_below (g := gb271) (o := .cells #[.int .i64 a0_0, .int .u64 a0_1, .int .i64 a0_2, .int .i64 a0_3, .int .i64 a0_4, .int .i64 a0_5, .int .i64 a0_6] 24 (0, 0)) (by (with_reducible repeat (first | refine blk_drewN ?_ _ | refine blk_drew ?_ | refine blk_alloc ?_ _)); exact BK271.out) hb); have n1_ := Aside0.mk (below_step (by repeat (first | (with_reducible first | exact HB.out | apply below_alloc | apply pw_below_drewN | apply below_drew1 | refine below_set ?_ GE271.out) | exact HB.out)) hb); clear BK271; clear HB; have BK271 := n0_; have HB := n1_; clear n0_ n1_; (try clear hb); (try clear hb2); (try clear hk); (try clear hi); have hcz14_0 : w13.cell? ⟨gb271, 0, none⟩ = some (.int .i64 a0_0) := (blk_cell BK271.out 0).trans rfl; have hcz14_1 : w13.cell? ⟨gb271, 1, none⟩ = some (.int .u64 a0_1) := (blk_cell BK271.out 1).trans rfl; have hcz14_2 : w13.cell? ⟨gb271, 2, none⟩ = some (.int .i64 a0_2) := (blk_cell BK271.out 2).trans rfl; have hcz14_3 : w13.cell? ⟨gb271, 3, none⟩ = some (.int .i64 a0_3) := (blk_cell BK271.out 3).trans rfl; have hcz14_4 : w13.cell? ⟨gb271, 4, none⟩ = some (.int .i64 a0_4) := (blk_cell BK271.out 4).trans rfl; have hcz14_5 : w13.cell? ⟨gb271, 5, none⟩ = some (.int .i64 a0_5) := (blk_cell BK271.out 5).trans rfl; have hcz14_6 : w13.cell? ⟨gb271, 6, none⟩ = some (.int .i64 a0_6) := (blk_cell BK271.out 6).trans rfl; have hfz14_0 := blk_frozen BK271.out 0; have hfz14_1 := blk_frozen BK271.out 1; have hfz14_2 := blk_frozen BK271.out 2; have hfz14_3 := blk_frozen BK271.out 3; have hfz14_4 := blk_frozen BK271.out 4; have hfz14_5 := blk_frozen BK271.out 5; have hfz14_6 := blk_frozen BK271.out 6))
      go_ret
      exact ⟨by first | rfl | (simp [errW_none, errW_some] <;> rfl) | (simp [*, errW_none, errW_some] <;> rfl), by repeat (first | (with_reducible first | exact HB.out | apply below_alloc | apply pw_below_drewN | apply below_drew1 | refine below_set ?_ GE271.out) | exact HB.out)⟩
     ·rw [if_neg c10] at H
      have c10b0 : decide (0 ≤ a0_5) = false := decide_eq_false c10
      clear c10
      obtain rfl := Option.some.inj H
      go_enter Tryd.func17, Tryd.ntmps17
      go_wp2_with (first | ((with_reducible refine gate_dst (N := 1) rfl ?_); refine box_event ?hg (N := 1) ?hd (cs := #[.int .i64 a0_0, .int .u64 a0_1, .int .i64 a0_2, .int .i64 a0_3, .int .i64 a0_4, .int .i64 a0_5, .int .i64 a0_6]) (t := 24) ?hr ?_; (case hd => rfl); (case hg => rfl); (case hr => first | (go_simp; done) | (go_simp; rfl)); intro gb271 hg w15 hbox hb; have n0_ := Aside0.mk (below_step (by repeat (first | (with_reducible first | exact HB.out | apply below_alloc | apply pw_below_drewN | apply below_drew1) | exact HB.out)) hb); have n1_ := Aside0.mk (hbox); have n2_ := Aside0.mk ((by rw [hg]; exact (below_size (by repeat (first | (with_reducible first | exact HB.out | apply below_alloc | apply pw_below_drewN | apply below_drew1) | exact HB.out))) : w.heap.size ≤ gb271)); have n3_ := Aside0.mk ((by rw [hg]; exact (below_size (by repeat (first | (with_reducible first | exact HB.out | apply below_alloc | apply pw_below_drewN | apply below_drew1) | exact HB.out))) : w.heap.size ≤ gb271)); clear HB; have HB := n0_; have BK271 := n1_; have GW271 := n2_; have GE271 := n3_; clear n0_ n1_ n2_ n3_; clear hb hbox hg; have hcz16_0 : w15.cell? ⟨gb271, 0, none⟩ = some (.int .i64 a0_0) := (blk_cell BK271.out 0).trans rfl; have hcz16_1 : w15.cell? ⟨gb271, 1, none⟩ = some (.int .u64 a0_1) := (blk_cell BK271.out 1).trans rfl; have hcz16_2 : w15.cell? ⟨gb271, 2, none⟩ = some (.int .i64 a0_2) := (blk_cell BK271.out 2).trans rfl; have hcz16_3 : w15.cell? ⟨gb271, 3, none⟩ = some (.int .i64 a0_3) := (blk_cell BK271.out 3).trans rfl; have hcz16_4 : w15.cell? ⟨gb271, 4, none⟩ = some (.int .i64 a0_4) := (blk_cell BK271.out 4).trans rfl; have hcz16_5 : w15.cell? ⟨gb271, 5, none⟩ = some (.int .i64 a0_5) := (blk_cell BK271.out 5).trans rfl; have hcz16_6 : w15.cell? ⟨gb271, 6, none⟩ = some (.int .i64 a0_6) := (blk_cell BK271.out 6).trans rfl; have hfz16_0 := blk_frozen BK271.out 0; have hfz16_1 := blk_frozen BK271.out 1; have hfz16_2 := blk_frozen BK271.out 2; have hfz16_3 := blk_frozen BK271.out 3; have hfz16_4 := blk_frozen BK271.out 4; have hfz16_5 := blk_frozen BK271.out 5; have hfz16_6 := blk_frozen BK271.out 6) | ((with_reducible refine gate_callee (f := 21) rfl ?_); refine goesL_ (some 5) rfl rfl Tryd.func21 (by kernel_rfl) rfl #[.int .i64 a0_2] rfl (by (try simp only [List.map_toArray, List.map_cons, List.map_nil]); first | done | rfl | (simp only [List.length_drop, List.length_take]; rfl)) ?_; (with_reducible refine (lockkeeperref24_Name.calls a0_2 t272 _ A2.out).mono ?_); rintro e w17 ⟨rfl, hb⟩; refine ⟨_, rfl, ?_⟩; have n0_ := Aside0.mk (blk_below (g := gb271) (o := .cells #[.int .i64 a0_0, .int .u64 a0_1, .int .i64 a0_2, .int .i64 a0_3, .int .i64 a0_4, .int .i64 a0_5, .int .i64 a0_6] 24 (0, 0)) (by (with_reducible repeat (first | refine blk_drewN ?_ _ | refine blk_drew ?_ | refine blk_alloc ?_ _)); exact BK271.out) hb); have n1_ := Aside0.mk (below_step (by repeat (first | (with_reducible first | exact HB.out | apply below_alloc | apply pw_below_drewN | apply below_drew1 | refine below_set ?_ GE271.out) | exact HB.out)) hb); clear BK271; clear HB; have BK271 := n0_; have HB := n1_; clear n0_ n1_; (try clear hb); (try clear hb2); (try clear hk); (try clear hi); have hcz18_0 : w17.cell? ⟨gb271, 0, none⟩ = some (.int .i64 a0_0) := (blk_cell BK271.out 0).trans rfl; have hcz18_1 : w17.cell? ⟨gb271, 1, none⟩ = some (.int .u64 a0_1) := (blk_cell BK271.out 1).trans rfl; have hcz18_2 : w17.cell? ⟨gb271, 2, none⟩ = some (.int .i64 a0_2) := (blk_cell BK271.out 2).trans rfl; have hcz18_3 : w17.cell? ⟨gb271, 3, none⟩ = some (.int .i64 a0_3) := (blk_cell BK271.out 3).trans rfl; have hcz18_4 : w17.cell? ⟨gb271, 4, none⟩ = some (.int .i64 a0_4) := (blk_cell BK271.out 4).trans rfl; have hcz18_5 : w17.cell? ⟨gb271, 5, none⟩ = some (.int .i64 a0_5) := (blk_cell BK271.out 5).trans rfl; have hcz18_6 : w17.cell? ⟨gb271, 6, none⟩ = some (.int .i64 a0_6) := (blk_cell BK271.out 6).trans rfl; have hfz18_0 := blk_frozen BK271.out 0; have hfz18_1 := blk_frozen BK271.out 1; have hfz18_2 := blk_frozen BK271.out 2; have hfz18_3 := blk_frozen BK271.out 3; have hfz18_4 := blk_frozen BK271.out 4; have hfz18_5 := blk_frozen BK271.out 5; have hfz18_6 := blk_frozen BK271.out 6))
      go_ret
      exact ⟨by first | rfl | (simp [errW_none, errW_some] <;> rfl) | (simp [*, errW_none, errW_some] <;> rfl), by repeat (first | (with_reducible first | exact HB.out | apply below_alloc | apply pw_below_drewN | apply below_drew1 | refine below_set ?_ GE271.out) | exact HB.out)⟩
    ·rw [if_neg c9] at H
     have c9b0 : decide (0 ≤ a0_4) = false := decide_eq_false c9
     clear c9
     obtain rfl := Option.some.inj H
     go_enter Tryd.func17, Tryd.ntmps17
     go_wp2_with (first | ((with_reducible refine gate_dst (N := 1) rfl ?_); refine box_event ?hg (N := 1) ?hd (cs := #[.int .i64 a0_0, .int .u64 a0_1, .int .i64 a0_2, .int .i64 a0_3, .int .i64 a0_4, .int .i64 a0_5, .int .i64 a0_6]) (t := 24) ?hr ?_; (case hd => rfl); (case hg => rfl); (case hr => first | (go_simp; done) | (go_simp; rfl)); intro gb271 hg w19 hbox hb; have n0_ := Aside0.mk (below_step (by repeat (first | (with_reducible first | exact HB.out | apply below_alloc | apply pw_below_drewN | apply below_drew1) | exact HB.out)) hb); have n1_ := Aside0.mk (hbox); have n2_ := Aside0.mk ((by rw [hg]; exact (below_size (by repeat (first | (with_reducible first | exact HB.out | apply below_alloc | apply pw_below_drewN | apply below_drew1) | exact HB.out))) : w.heap.size ≤ gb271)); have n3_ := Aside0.mk ((by rw [hg]; exact (below_size (by repeat (first | (with_reducible first | exact HB.out | apply below_alloc | apply pw_below_drewN | apply below_drew1) | exact HB.out))) : w.heap.size ≤ gb271)); clear HB; have HB := n0_; have BK271 := n1_; have GW271 := n2_; have GE271 := n3_; clear n0_ n1_ n2_ n3_; clear hb hbox hg; have hcz20_0 : w19.cell? ⟨gb271, 0, none⟩ = some (.int .i64 a0_0) := (blk_cell BK271.out 0).trans rfl; have hcz20_1 : w19.cell? ⟨gb271, 1, none⟩ = some (.int .u64 a0_1) := (blk_cell BK271.out 1).trans rfl; have hcz20_2 : w19.cell? ⟨gb271, 2, none⟩ = some (.int .i64 a0_2) := (blk_cell BK271.out 2).trans rfl; have hcz20_3 : w19.cell? ⟨gb271, 3, none⟩ = some (.int .i64 a0_3) := (blk_cell BK271.out 3).trans rfl; have hcz20_4 : w19.cell? ⟨gb271, 4, none⟩ = some (.int .i64 a0_4) := (blk_cell BK271.out 4).trans rfl; have hcz20_5 : w19.cell? ⟨gb271, 5, none⟩ = some (.int .i64 a0_5) := (blk_cell BK271.out 5).trans rfl; have hcz20_6 : w19.cell? ⟨gb271, 6, none⟩ = some (.int .i64 a0_6) := (blk_cell BK271.out 6).trans rfl; have hfz20_0 := blk_frozen BK271.out 0; have hfz20_1 := blk_frozen BK271.out 1; have hfz20_2 := blk_frozen BK271.out 2; have hfz20_3 := blk_frozen BK271.out 3; have hfz20_4 := blk_frozen BK271.out 4; have hfz20_5 := blk_frozen BK271.out 5; have hfz20_6 := blk_frozen BK271.out 6) | ((with_reducible refine gate_callee (f := 21) rfl ?_); refine goesL_ (some 5) rfl rfl Tryd.func21 (by kernel_rfl) rfl #[.int .i64 a0_2] rfl (by (try simp only [List.map_toArray, List.map_cons, List.map_nil]); first | done | rfl | (simp only [List.length_drop, List.length_take]; rfl)) ?_; (with_reducible refine (lockkeeperref24_Name.calls a0_2 t272 _ A2.out).mono ?_); rintro e w21 ⟨rfl, hb⟩; refine ⟨_, rfl, ?_⟩; have n0_ := Aside0.mk (blk_below (g := gb271) (o := .cells #[.int .i64 a0_0, .int .u64 a0_1, .int .i64 a0_2, .int .i64 a0_3, .int .i64 a0_4, .int .i64 a0_5, .int .i64 a0_6] 24 (0, 0)) (by (with_reducible repeat (first | refine blk_drewN ?_ _ | refine blk_drew ?_ | refine blk_alloc ?_ _)); exact BK271.out) hb); have n1_ := Aside0.mk (below_step (by repeat (first | (with_reducible first | exact HB.out | apply below_alloc | apply pw_below_drewN | apply below_drew1 | refine below_set ?_ GE271.out) | exact HB.out)) hb); clear BK271; clear HB; have BK271 := n0_; have HB := n1_; clear n0_ n1_; (try clear hb); (try clear hb2); (try clear hk); (try clear hi); have hcz22_0 : w21.cell? ⟨gb271, 0, none⟩ = some (.int .i64 a0_0) := (blk_cell BK271.out 0).trans rfl; have hcz22_1 : w21.cell? ⟨gb271, 1, none⟩ = some (.int .u64 a0_1) := (blk_cell BK271.out 1).trans rfl; have hcz22_2 : w21.cell? ⟨gb271, 2, none⟩ = some (.int .i64 a0_2) := (blk_cell BK271.out 2).trans rfl; have hcz22_3 : w21.cell? ⟨gb271, 3, none⟩ = some (.int .i64 a0_3) := (blk_cell BK271.out 3).trans rfl; have hcz22_4 : w21.cell? ⟨gb271, 4, none⟩ = some (.int .i64 a0_4) := (blk_cell BK271.out 4).trans rfl; have hcz22_5 : w21.cell? ⟨gb271, 5, none⟩ = some (.int .i64 a0_5) := (blk_cell BK271.out 5).trans rfl; have hcz22_6 : w21.cell? ⟨gb271, 6, none⟩ = some (.int .i64 a0_6) := (blk_cell BK271.out 6).trans rfl; have hfz22_0 := blk_frozen BK271.out 0; have hfz22_1 := blk_frozen BK271.out 1; have hfz22_2 := blk_frozen BK271.out 2; have hfz22_3 := blk_frozen BK271.out 3; have hfz22_4 := blk_frozen BK271.out 4; have hfz22_5 := blk_frozen BK271.out 5; have hfz22_6 := blk_frozen BK271.out 6))
     go_ret
     exact ⟨by first | rfl | (simp [errW_none, errW_some] <;> rfl) | (simp [*, errW_none, errW_some] <;> rfl), by repeat (first | (with_reducible first | exact HB.out | apply below_alloc | apply pw_below_drewN | apply below_drew1 | refine below_set ?_ GE271.out) | exact HB.out)⟩
   ·rw [if_neg c8] at H
    have c8b0 : decide (0 ≤ a0_3) = false := decide_eq_false c8
    clear c8
    obtain rfl := Option.some.inj H
    go_enter Tryd.func17, Tryd.ntmps17
    go_wp2_with (first | ((with_reducible refine gate_dst (N := 1) rfl ?_); refine box_event ?hg (N := 1) ?hd (cs := #[.int .i64 a0_0, .int .u64 a0_1, .int .i64 a0_2, .int .i64 a0_3, .int .i64 a0_4, .int .i64 a0_5, .int .i64 a0_6]) (t := 24) ?hr ?_; (case hd => rfl); (case hg => rfl); (case hr => first | (go_simp; done) | (go_simp; rfl)); intro gb271 hg w23 hbox hb; have n0_ := Aside0.mk (below_step (by repeat (first | (with_reducible first | exact HB.out | apply below_alloc | apply pw_below_drewN | apply below_drew1) | exact HB.out)) hb); have n1_ := Aside0.mk (hbox); have n2_ := Aside0.mk ((by rw [hg]; exact (below_size (by repeat (first | (with_reducible first | exact HB.out | apply below_alloc | apply pw_below_drewN | apply below_drew1) | exact HB.out))) : w.heap.size ≤ gb271)); have n3_ := Aside0.mk ((by rw [hg]; exact (below_size (by repeat (first | (with_reducible first | exact HB.out | apply below_alloc | apply pw_below_drewN | apply below_drew1) | exact HB.out))) : w.heap.size ≤ gb271)); clear HB; have HB := n0_; have BK271 := n1_; have GW271 := n2_; have GE271 := n3_; clear n0_ n1_ n2_ n3_; clear hb hbox hg; have hcz24_0 : w23.cell? ⟨gb271, 0, none⟩ = some (.int .i64 a0_0) := (blk_cell BK271.out 0).trans rfl; have hcz24_1 : w23.cell? ⟨gb271, 1, none⟩ = some (.int .u64 a0_1) := (blk_cell BK271.out 1).trans rfl; have hcz24_2 : w23.cell? ⟨gb271, 2, none⟩ = some (.int .i64 a0_2) := (blk_cell BK271.out 2).trans rfl; have hcz24_3 : w23.cell? ⟨gb271, 3, none⟩ = some (.int .i64 a0_3) := (blk_cell BK271.out 3).trans rfl; have hcz24_4 : w23.cell? ⟨gb271, 4, none⟩ = some (.int .i64 a0_4) := (blk_cell BK271.out 4).trans rfl; have hcz24_5 : w23.cell? ⟨gb271, 5, none⟩ = some (.int .i64 a0_5) := (blk_cell BK271.out 5).trans rfl; have hcz24_6 : w23.cell? ⟨gb271, 6, none⟩ = some (.int .i64 a0_6) := (blk_cell BK271.out 6).trans rfl; have hfz24_0 := blk_frozen BK271.out 0; have hfz24_1 := blk_frozen BK271.out 1; have hfz24_2 := blk_frozen BK271.out 2; have hfz24_3 := blk_frozen BK271.out 3; have hfz24_4 := blk_frozen BK271.out 4; have hfz24_5 := blk_frozen BK271.out 5; have hfz24_6 := blk_frozen BK271.out 6) | ((with_reducible refine gate_callee (f := 21) rfl ?_); refine goesL_ (some 5) rfl rfl Tryd.func21 (by kernel_rfl) rfl #[.int .i64 a0_2] rfl (by (try simp only [List.map_toArray, List.map_cons, List.map_nil]); first | done | rfl | (simp only [List.length_drop, List.length_take]; rfl)) ?_; (with_reducible refine (lockkeeperref24_Name.calls a0_2 t272 _ A2.out).mono ?_); rintro e w25 ⟨rfl, hb⟩; refine ⟨_, rfl, ?_⟩; have n0_ := Aside0.mk (blk_below (g := gb271) (o := .cells #[.int .i64 a0_0, .int .u64 a0_1, .int .i64 a0_2, .int .i64 a0_3, .int .i64 a0_4, .int .i64 a0_5, .int .i64 a0_6] 24 (0, 0)) (by (with_reducible repeat (first | refine blk_drewN ?_ _ | refine blk_drew ?_ | refine blk_alloc ?_ _)); exact BK271.out) hb); have n1_ := Aside0.mk (below_step (by repeat (first | (with_reducible first | exact HB.out | apply below_alloc | apply pw_below_drewN | apply below_drew1 | refine below_set ?_ GE271.out) | exact HB.out)) hb); clear BK271; clear HB; have BK271 := n0_; have HB := n1_; clear n0_ n1_; (try clear hb); (try clear hb2); (try clear hk); (try clear hi); have hcz26_0 : w25.cell? ⟨gb271, 0, none⟩ = some (.int .i64 a0_0) := (blk_cell BK271.out 0).trans rfl; have hcz26_1 : w25.cell? ⟨gb271, 1, none⟩ = some (.int .u64 a0_1) := (blk_cell BK271.out 1).trans rfl; have hcz26_2 : w25.cell? ⟨gb271, 2, none⟩ = some (.int .i64 a0_2) := (blk_cell BK271.out 2).trans rfl; have hcz26_3 : w25.cell? ⟨gb271, 3, none⟩ = some (.int .i64 a0_3) := (blk_cell BK271.out 3).trans rfl; have hcz26_4 : w25.cell? ⟨gb271, 4, none⟩ = some (.int .i64 a0_4) := (blk_cell BK271.out 4).trans rfl; have hcz26_5 : w25.cell? ⟨gb271, 5, none⟩ = some (.int .i64 a0_5) := (blk_cell BK271.out 5).trans rfl; have hcz26_6 : w25.cell? ⟨gb271, 6, none⟩ = some (.int .i64 a0_6) := (blk_cell BK271.out 6).trans rfl; have hfz26_0 := blk_frozen BK271.out 0; have hfz26_1 := blk_frozen BK271.out 1; have hfz26_2 := blk_frozen BK271.out 2; have hfz26_3 := blk_frozen BK271.out 3; have hfz26_4 := blk_frozen BK271.out 4; have hfz26_5 := blk_frozen BK271.out 5; have hfz26_6 := blk_frozen BK271.out 6))
    go_ret
    exact ⟨by first | rfl | (simp [errW_none, errW_some] <;> rfl) | (simp [*, errW_none, errW_some] <;> rfl), by repeat (first | (with_reducible first | exact HB.out | apply below_alloc | apply pw_below_drewN | apply below_drew1 | refine below_set ?_ GE271.out) | exact HB.out)⟩
  ·rw [if_neg c7] at H
   have c7b0 : decide (0 ≤ a0_0) = false := decide_eq_false c7
   clear c7
   obtain rfl := Option.some.inj H
   go_enter Tryd.func17, Tryd.ntmps17
   go_wp2_with (first | ((with_reducible refine gate_dst (N := 1) rfl ?_); refine box_event ?hg (N := 1) ?hd (cs := #[.int .i64 a0_0, .int .u64 a0_1, .int .i64 a0_2, .int .i64 a0_3, .int .i64 a0_4, .int .i64 a0_5, .int .i64 a0_6]) (t := 24) ?hr ?_; (case hd => rfl); (case hg => rfl); (case hr => first | (go_simp; done) | (go_simp; rfl)); intro gb271 hg w27 hbox hb; have n0_ := Aside0.mk (below_step (by repeat (first | (with_reducible first | exact HB.out | apply below_alloc | apply pw_below_drewN | apply below_drew1) | exact HB.out)) hb); have n1_ := Aside0.mk (hbox); have n2_ := Aside0.mk ((by rw [hg]; exact (below_size (by repeat (first | (with_reducible first | exact HB.out | apply below_alloc | apply pw_below_drewN | apply below_drew1) | exact HB.out))) : w.heap.size ≤ gb271)); have n3_ := Aside0.mk ((by rw [hg]; exact (below_size (by repeat (first | (with_reducible first | exact HB.out | apply below_alloc | apply pw_below_drewN | apply below_drew1) | exact HB.out))) : w.heap.size ≤ gb271)); clear HB; have HB := n0_; have BK271 := n1_; have GW271 := n2_; have GE271 := n3_; clear n0_ n1_ n2_ n3_; clear hb hbox hg; have hcz28_0 : w27.cell? ⟨gb271, 0, none⟩ = some (.int .i64 a0_0) := (blk_cell BK271.out 0).trans rfl; have hcz28_1 : w27.cell? ⟨gb271, 1, none⟩ = some (.int .u64 a0_1) := (blk_cell BK271.out 1).trans rfl; have hcz28_2 : w27.cell? ⟨gb271, 2, none⟩ = some (.int .i64 a0_2) := (blk_cell BK271.out 2).trans rfl; have hcz28_3 : w27.cell? ⟨gb271, 3, none⟩ = some (.int .i64 a0_3) := (blk_cell BK271.out 3).trans rfl; have hcz28_4 : w27.cell? ⟨gb271, 4, none⟩ = some (.int .i64 a0_4) := (blk_cell BK271.out 4).trans rfl; have hcz28_5 : w27.cell? ⟨gb271, 5, none⟩ = some (.int .i64 a0_5) := (blk_cell BK271.out 5).trans rfl; have hcz28_6 : w27.cell? ⟨gb271, 6, none⟩ = some (.int .i64 a0_6) := (blk_cell BK271.out 6).trans rfl; have hfz28_0 := blk_frozen BK271.out 0; have hfz28_1 := blk_frozen BK271.out 1; have hfz28_2 := blk_frozen BK271.out 2; have hfz28_3 := blk_frozen BK271.out 3; have hfz28_4 := blk_frozen BK271.out 4; have hfz28_5 := blk_frozen BK271.out 5; have hfz28_6 := blk_frozen BK271.out 6) | ((with_reducible refine gate_callee (f := 21) rfl ?_); refine goesL_ (some 5) rfl rfl Tryd.func21 (by kernel_rfl) rfl #[.int .i64 a0_2] rfl (by (try simp only [List.map_toArray, List.map_cons, List.map_nil]); first | done | rfl | (simp only [List.length_drop, List.length_take]; rfl)) ?_; (with_reducible refine (lockkeeperref24_Name.calls a0_2 t272 _ A2.out).mono ?_); rintro e w29 ⟨rfl, hb⟩; refine ⟨_, rfl, ?_⟩; have n0_ := Aside0.mk (blk_below (g := gb271) (o := .cells #[.int .i64 a0_0, .int .u64 a0_1, .int .i64 a0_2, .int .i64 a0_3, .int .i64 a0_4, .int .i64 a0_5, .int .i64 a0_6] 24 (0, 0)) (by (with_reducible repeat (first | refine blk_drewN ?_ _ | refine blk_drew ?_ | refine blk_alloc ?_ _)); exact BK271.out) hb); have n1_ := Aside0.mk (below_step (by repeat (first | (with_reducible first | exact HB.out | apply below_alloc | apply pw_below_drewN | apply below_drew1 | refine below_set ?_ GE271.out) | exact HB.out)) hb); clear BK271; clear HB; have BK271 := n0_; have HB := n1_; clear n0_ n1_; (try clear hb); (try clear hb2); (try clear hk); (try clear hi); have hcz30_0 : w29.cell? ⟨gb271, 0, none⟩ = some (.int .i64 a0_0) := (blk_cell BK271.out 0).trans rfl; have hcz30_1 : w29.cell? ⟨gb271, 1, none⟩ = some (.int .u64 a0_1) := (blk_cell BK271.out 1).trans rfl; have hcz30_2 : w29.cell? ⟨gb271, 2, none⟩ = some (.int .i64 a0_2) := (blk_cell BK271.out 2).trans rfl; have hcz30_3 : w29.cell? ⟨gb271, 3, none⟩ = some (.int .i64 a0_3) := (blk_cell BK271.out 3).trans rfl; have hcz30_4 : w29.cell? ⟨gb271, 4, none⟩ = some (.int .i64 a0_4) := (blk_cell BK271.out 4).trans rfl; have hcz30_5 : w29.cell? ⟨gb271, 5, none⟩ = some (.int .i64 a0_5) := (blk_cell BK271.out 5).trans rfl; have hcz30_6 : w29.cell? ⟨gb271, 6, none⟩ = some (.int .i64 a0_6) := (blk_cell BK271.out 6).trans rfl; have hfz30_0 := blk_frozen BK271.out 0; have hfz30_1 := blk_frozen BK271.out 1; have hfz30_2 := blk_frozen BK271.out 2; have hfz30_3 := blk_frozen BK271.out 3; have hfz30_4 := blk_frozen BK271.out 4; have hfz30_5 := blk_frozen BK271.out 5; have hfz30_6 := blk_frozen BK271.out 6))
   go_ret
   exact ⟨by first | rfl | (simp [errW_none, errW_some] <;> rfl) | (simp [*, errW_none, errW_some] <;> rfl), by repeat (first | (with_reducible first | exact HB.out | apply below_alloc | apply pw_below_drewN | apply below_drew1 | refine below_set ?_ GE271.out) | exact HB.out)⟩

/-! ### lockkeeperref24_num: function 37 -/
def lockkeeperref24_num.f (k : Nat) (a0 : Int) : Option (ByteArray) := (lockkeeperref1_Num.f k (IntKind.u64.wrap (a0))).bind fun t273 => (some t273)
theorem lockkeeperref24_num.mono : ∀ a0 k, LeO (lockkeeperref24_num.f k a0) (lockkeeperref24_num.f (k + 1) a0) := by
 intro a0 k
 unfold lockkeeperref24_num.f
 repeat' first
   | (with_reducible exact lockkeeperref1_Num.mono _ _)
   | (with_reducible exact LeO.refl _)
   | (with_reducible exact LeO.none _)
   | (with_reducible refine LeO.ite ?_ ?_)
   | (with_reducible refine LeO.bind ?_ (fun _ => ?_))
   | exact lockkeeperref1_Num.mono _ _
   | exact LeO.none _
   | refine LeO.ite ?_ ?_
   | refine LeO.bind ?_ (fun _ => ?_)
set_option maxHeartbeats 8000000 in
set_option maxRecDepth 100000 in
theorem lockkeeperref24_num.calls (k : Nat) (a0 : Int) (r : ByteArray) (w : World) (h : lockkeeperref24_num.f k a0 = some r) :
  Calls Tryd.prog 37 #[.int .i64 a0] w fun e w' => e = .returned (.string r) ∧ Drawn0 w w' := by
 have H : ((lockkeeperref1_Num.f k (IntKind.u64.wrap (a0))).bind fun t273 => (some t273)) = some r := h
 clear h
 replace H := Option.bind_eq_some_iff.mp H
 obtain ⟨t273, A20, H⟩ := H
 replace H : (some t273) = some r := H
 have A2 := Aside0.mk A20
 clear A20
 obtain rfl := Option.some.inj H
 go_enter Tryd.func37, Tryd.ntmps37
 go_wp2_with (first | ((with_reducible refine gate_callee (f := 38) rfl ?_); refine goesL_ (some 5) rfl rfl Tryd.func38 (by kernel_rfl) rfl #[.int .u64 (IntKind.u64.wrap (a0))] rfl (by (try simp only [List.map_toArray, List.map_cons, List.map_nil]); first | done | rfl | (simp only [List.length_drop, List.length_take]; rfl)) ?_; (with_reducible refine (lockkeeperref1_Num.calls k (IntKind.u64.wrap (a0)) t273 _ A2.out).mono ?_); rintro e w' ⟨rfl, ⟨nd, rfl⟩⟩; refine ⟨_, rfl, ?_⟩))
 go_ret
 exact ⟨by first | rfl | (simp; done) | (simp [*]; done), by repeat (first | exact Drawn0.refl _ | apply Drawn0.step)⟩

end Go.Proofs.YtpkmhepoeefgkaaDoor.Pr
