-- Made by a program of this session (wip/xp/xp.py), over the print's words.
import Derived.Test.YtnbkfneolgeeeaaDoorPr0
import Derived.Test.YtnbkfneolgeeeaaDoorPr1
import Derived.Test.YtnbkfneolgeeeaaDoorPr3
import Derived.Test.YtnbkfneolgeeeaaDoorPr4
import Derived.Test.YtnbkfneolgeeeaaDoorPr8
import Derived.Test.YtnbkfneolgeeeaaDoorPr9
namespace Go.Proofs.YtnbkfneolgeeeaaDoor.Pr
open Go.RowKit Go.Proofs.YtnbkfneolgeeeaaDoorW.PrintWords Go.Proofs.YtnbkfneolgeeeaaDoorW.PrintLast Go.Proofs.YtnbkfneolgeeeaaDoorW.PrintMore
attribute [local go_sem] max2_int min2_int max_two min_two max_three min_three max_four min_four   -- for this text's walks alone
set_option linter.unusedVariables false
set_option linter.unusedSimpArgs false

/-! ### lockkeeperlaw14_AllowAll: function 5 -/
def lockkeeperlaw14_AllowAll.j0 : Nat → List (S35) → ByteArray → Bool → Bool → List ByteArray → List ByteArray → Int → Option (Bool)
 | 0, _, _, _, _, _, _, _ => none
 | k + 1, x0, x2, x3, x29, x242000, x242001, x242002 => if x29 = true then ((lockkeeperlaw14_awake.f k).bind fun t249 => (some t249)) else ((allow_Read.f k x0).bind fun bt250 => ((lockkeeperref14_Read.f k x0).bind fun bt259 => ((lockkeeperlaw0_Allow.f k bt250.1 bt250.2.1 bt250.2.2.1 bt259.1 bt259.2.1 bt259.2.2.1).bind fun t268 => (if t268 = true then (if bt250.2.2.2 = bt259.2.2.2 then ((allow_Has.f k x242000 x242001 x242002 x2 x3).bind fun t269 => ((lockkeeperref14_Has.f k x242000 x242001 x242002 x2 x3).bind fun t270 => (if (t269 == t270) = true then ((allow_Covers.f x242000 x242001 x242002 x2 x3).bind fun t271 => ((lockkeeperref14_Covers.f k x242000 x242001 x242002 x2 x3).bind fun t272 => (if (t271 == t272) = true then ((lockkeeperlaw14_awake.f k).bind fun t273 => (some t273)) else (some false)))) else (some false)))) else (some false)) else (some false)))))
def lockkeeperlaw14_AllowAll.f (k : Nat) (l0 : List (S35)) (l1_0 : List ByteArray) (l1_1 : List ByteArray) (a1_2 : Int) (a2 : ByteArray) (a3 : Bool) : Option (Bool) := (lockkeeperlaw0_GreatHeaders.f k l0).bind fun t242 => (if t242 = true then (lockkeeperlaw14_AllowAll.j0 k l0 a2 a3 true l1_0 l1_1 a1_2) else ((lockkeeperlaw0_Long.f k 2000 l1_0).bind fun t243 => (if t243 = true then (lockkeeperlaw14_AllowAll.j0 k l0 a2 a3 true l1_0 l1_1 a1_2) else ((lockkeeperlaw0_Long.f k 2000 l1_1).bind fun t244 => (if t244 = true then (lockkeeperlaw14_AllowAll.j0 k l0 a2 a3 true l1_0 l1_1 a1_2) else ((lockkeeperlaw0_Long.f k 200 (([a2] : List ByteArray))).bind fun t248 => (lockkeeperlaw14_AllowAll.j0 k l0 a2 a3 t248 l1_0 l1_1 a1_2)))))))
theorem lockkeeperlaw14_AllowAll.mono_l : ∀ k, (∀ y0 y1 y2 y3 y4 y5 y6, LeO (lockkeeperlaw14_AllowAll.j0 k y0 y1 y2 y3 y4 y5 y6) (lockkeeperlaw14_AllowAll.j0 (k + 1) y0 y1 y2 y3 y4 y5 y6))
 | 0 => fun _ _ _ _ _ _ _ r h => by simp [lockkeeperlaw14_AllowAll.j0] at h
 | k + 1 => by
  have ih0 := lockkeeperlaw14_AllowAll.mono_l k
  ·intro y0 y1 y2 y3 y4 y5 y6
   unfold lockkeeperlaw14_AllowAll.j0
   repeat' first
   | (with_reducible exact ih0 _ _ _ _ _ _ _)
   | (with_reducible exact allow_Has.mono _ _ _ _ _ _)
   | (with_reducible exact allow_Read.mono _ _)
   | (with_reducible exact lockkeeperlaw0_Allow.mono _ _ _ _ _ _ _)
   | (with_reducible exact lockkeeperlaw0_GreatHeaders.mono _ _)
   | (with_reducible exact lockkeeperlaw0_Long.mono _ _ _)
   | (with_reducible exact lockkeeperlaw14_awake.mono _)
   | (with_reducible exact lockkeeperref14_Covers.mono _ _ _ _ _ _)
   | (with_reducible exact lockkeeperref14_Has.mono _ _ _ _ _ _)
   | (with_reducible exact lockkeeperref14_Read.mono _ _)
   | (with_reducible exact LeO.refl _)
   | (with_reducible exact LeO.none _)
   | (with_reducible refine LeO.ite ?_ ?_)
   | (with_reducible refine LeO.bind ?_ (fun _ => ?_))
   | exact ih0 _ _ _ _ _ _ _
   | exact allow_Has.mono _ _ _ _ _ _
   | exact allow_Read.mono _ _
   | exact lockkeeperlaw0_Allow.mono _ _ _ _ _ _ _
   | exact lockkeeperlaw0_GreatHeaders.mono _ _
   | exact lockkeeperlaw0_Long.mono _ _ _
   | exact lockkeeperlaw14_awake.mono _
   | exact lockkeeperref14_Covers.mono _ _ _ _ _ _
   | exact lockkeeperref14_Has.mono _ _ _ _ _ _
   | exact lockkeeperref14_Read.mono _ _
   | exact LeO.none _
   | refine LeO.ite ?_ ?_
   | refine LeO.bind ?_ (fun _ => ?_)
theorem lockkeeperlaw14_AllowAll.mono : ∀ a0 a1 a2 a3 a4 a5 k, LeO (lockkeeperlaw14_AllowAll.f k a0 a1 a2 a3 a4 a5) (lockkeeperlaw14_AllowAll.f (k + 1) a0 a1 a2 a3 a4 a5) := by
 intro a0 a1 a2 a3 a4 a5 k
 have ih0 := lockkeeperlaw14_AllowAll.mono_l k
 unfold lockkeeperlaw14_AllowAll.f
 repeat' first
   | (with_reducible exact ih0 _ _ _ _ _ _ _)
   | (with_reducible exact allow_Has.mono _ _ _ _ _ _)
   | (with_reducible exact allow_Read.mono _ _)
   | (with_reducible exact lockkeeperlaw0_Allow.mono _ _ _ _ _ _ _)
   | (with_reducible exact lockkeeperlaw0_GreatHeaders.mono _ _)
   | (with_reducible exact lockkeeperlaw0_Long.mono _ _ _)
   | (with_reducible exact lockkeeperlaw14_awake.mono _)
   | (with_reducible exact lockkeeperref14_Covers.mono _ _ _ _ _ _)
   | (with_reducible exact lockkeeperref14_Has.mono _ _ _ _ _ _)
   | (with_reducible exact lockkeeperref14_Read.mono _ _)
   | (with_reducible exact LeO.refl _)
   | (with_reducible exact LeO.none _)
   | (with_reducible refine LeO.ite ?_ ?_)
   | (with_reducible refine LeO.bind ?_ (fun _ => ?_))
   | exact ih0 _ _ _ _ _ _ _
   | exact allow_Has.mono _ _ _ _ _ _
   | exact allow_Read.mono _ _
   | exact lockkeeperlaw0_Allow.mono _ _ _ _ _ _ _
   | exact lockkeeperlaw0_GreatHeaders.mono _ _
   | exact lockkeeperlaw0_Long.mono _ _ _
   | exact lockkeeperlaw14_awake.mono _
   | exact lockkeeperref14_Covers.mono _ _ _ _ _ _
   | exact lockkeeperref14_Has.mono _ _ _ _ _ _
   | exact lockkeeperref14_Read.mono _ _
   | exact LeO.none _
   | refine LeO.ite ?_ ?_
   | refine LeO.bind ?_ (fun _ => ?_)
def lockkeeperlaw14_AllowAll.T5 : Bool × List (List Nat × List Nat) := (true, [([], []), ([], []), ([0, 1], [0, 1]), ([2, 2], [2]), ([3], [3]), ([3], [3]), ([4, 5, 3], [3, 4, 5]), ([3, 6], [3, 6]), ([7, 3], [7]), ([8], [8]), ([8], [8]), ([8], [8]), ([9, 10, 11, 8, 8], [8, 9, 10, 11]), ([8], [8]), ([8], [8]), ([8], [8]), ([13, 14, 15, 12, 8], [8, 13, 14, 15]), ([12, 16, 8], [8, 12, 16]), ([8, 17], [8, 17]), ([18, 16], [18]), ([19], [19]), ([19], [19]), ([19], [19]), ([20, 21, 22, 19, 19], [19, 20, 21, 22]), ([19], [19]), ([19], [19]), ([19], [19]), ([24, 25, 26, 23, 19], [19, 24, 25, 26]), ([23, 27, 19], [19, 23, 27]), ([19, 28], [19, 28]), ([29, 27], [29]), ([30, 30], [30]), ([30, 31], [30, 31]), ([32, 31, 0, 1, 2, 3, 4, 5, 6, 7, 8, 9, 10, 11, 12, 13, 14, 15, 16, 17, 18, 19, 20, 21, 22, 23, 24, 25, 26, 27, 28, 29, 30, 31, 32], [32])])
def lockkeeperlaw14_AllowAll.B5 : List Nat := [0, 0, 3, 7, 15, 15, 63, 127, 255, 511, 511, 511, 4095, 511, 511, 511, 65535, 131071, 262143, 524287, 1048575, 1048575, 1048575, 8388607, 1048575, 1048575, 1048575, 134217727, 268435455, 536870911, 1073741823, 2147483647, 4294967295, 8589934591]
theorem lockkeeperlaw14_AllowAll.tab5 : rtab .any (opsOf Tryd.f5 5) = lockkeeperlaw14_AllowAll.T5 := by kernel_rfl
theorem lockkeeperlaw14_AllowAll.bits5 : waitsOk lockkeeperlaw14_AllowAll.T5.2 lockkeeperlaw14_AllowAll.B5 = true := by kernel_rfl
set_option maxHeartbeats 8000000 in
set_option maxRecDepth 100000 in
theorem lockkeeperlaw14_AllowAll.calls (k : Nat) (A0 : Option Addr) (c0 : Nat) (l0 : List (S35)) (A1_0 : Option Addr) (c1_0 : Nat) (l1_0 : List ByteArray) (A1_1 : Option Addr) (c1_1 : Nat) (l1_1 : List ByteArray) (a1_2 : Int) (a2 : ByteArray) (a3 : Bool) (r : Bool) (w : World) (hr0 : Kd.C k35 w A0 l0.length l0) (hc0 : l0.length ≤ c0) (hr1_0 : Kd.C Kd.string w A1_0 l1_0.length l1_0) (hc1_0 : l1_0.length ≤ c1_0) (hr1_1 : Kd.C Kd.string w A1_1 l1_1.length l1_1) (hc1_1 : l1_1.length ≤ c1_1) (hr_ : r = true) (h : lockkeeperlaw14_AllowAll.f k l0 l1_0 l1_1 a1_2 a2 a3 = some r) :
  Calls Tryd.prog 5 #[.slice A0 l0.length c0, .agg #[.slice A1_0 l1_0.length c1_0, .slice A1_1 l1_1.length c1_1, .int .u64 a1_2], .string a2, .bool a3] w fun e w' => e = .returned (.bool r) ∧ Below w.heap.size w w' := by
 have hu42 := Tryd.underlying42
 have HR0 := Aside0.mk hr0
 have HC0 := Aside0.mk hc0
 clear hr0 hc0
 have HR1_0 := Aside0.mk hr1_0
 have HC1_0 := Aside0.mk hc1_0
 clear hr1_0 hc1_0
 have HR1_1 := Aside0.mk hr1_1
 have HC1_1 := Aside0.mk hc1_1
 clear hr1_1 hc1_1
 have HB := Aside0.mk (Below.refl w.heap.size w)
 have H : ((lockkeeperlaw0_GreatHeaders.f k l0).bind fun t242 => (if t242 = true then (lockkeeperlaw14_AllowAll.j0 k l0 a2 a3 true l1_0 l1_1 a1_2) else ((lockkeeperlaw0_Long.f k 2000 l1_0).bind fun t243 => (if t243 = true then (lockkeeperlaw14_AllowAll.j0 k l0 a2 a3 true l1_0 l1_1 a1_2) else ((lockkeeperlaw0_Long.f k 2000 l1_1).bind fun t244 => (if t244 = true then (lockkeeperlaw14_AllowAll.j0 k l0 a2 a3 true l1_0 l1_1 a1_2) else ((lockkeeperlaw0_Long.f k 200 (([a2] : List ByteArray))).bind fun t248 => (lockkeeperlaw14_AllowAll.j0 k l0 a2 a3 t248 l1_0 l1_1 a1_2)))))))) = some r := h
 clear h
 have HC5 := Aside0.mk H
 clear H
 go_enter Tryd.func5, Tryd.ntmps5
 go_upto_region 1 with (first | ((with_reducible refine gate_dst (N := 5) rfl ?_); (try (refine gate_guard (by rfl) ?_; dsimp only)); refine box_event ?hg (N := 5) ?hd (cs := #[.slice A1_0 l1_0.length c1_0, .slice A1_1 l1_1.length c1_1, .int .u64 a1_2]) (t := 42) ?hr ?_; (case hd => rfl); (case hg => rfl); (case hr => first | (go_simp; done) | (go_simp; rfl)); intro gb241 hg w6 hbox hb; have n0_ := Aside0.mk (below_step (by repeat (first | (with_reducible first | exact HB.out | apply below_alloc | apply pw_below_drewN | apply below_drew1) | exact HB.out)) hb); have n1_ := Aside0.mk (hbox); have n2_ := Aside0.mk ((by rw [hg]; exact (below_size (by repeat (first | (with_reducible first | exact HB.out | apply below_alloc | apply pw_below_drewN | apply below_drew1) | exact HB.out))) : w.heap.size ≤ gb241)); have n3_ := Aside0.mk ((by rw [hg]; exact (below_size (by repeat (first | (with_reducible first | exact HB.out | apply below_alloc | apply pw_below_drewN | apply below_drew1) | exact HB.out))) : w.heap.size ≤ gb241)); clear HB; have HB := n0_; have BK241 := n1_; have GW241 := n2_; have GE241 := n3_; clear n0_ n1_ n2_ n3_; clear hb hbox hg))
 (try simp only [Act.put, List.setIfInBounds_toArray, List.set_cons_zero, List.set_cons_succ])
 go_cut [29] (fun v29 wc => ∃ (kq : Nat) (x29_4 : Bool), v29 = .bool x29_4 ∧ Aside0 (lockkeeperlaw14_AllowAll.j0 kq l0 a2 a3 x29_4 l1_0 l1_1 a1_2 = some r) ∧ Aside0 (kq ≤ k) ∧ Aside0 (wc.heap[gb241]? = some (.cells #[(.slice A1_0 l1_0.length c1_0), (.slice A1_1 l1_1.length c1_1), .int .u64 a1_2] 42 (0, 0))) ∧ Aside0 (Below w.heap.size w wc))
 case first =>
  have H := HC5.out
  clear HC5
  replace H := Option.bind_eq_some_iff.mp H
  obtain ⟨t242, A70, H⟩ := H
  replace H : (if t242 = true then (lockkeeperlaw14_AllowAll.j0 k l0 a2 a3 true l1_0 l1_1 a1_2) else ((lockkeeperlaw0_Long.f k 2000 l1_0).bind fun t243 => (if t243 = true then (lockkeeperlaw14_AllowAll.j0 k l0 a2 a3 true l1_0 l1_1 a1_2) else ((lockkeeperlaw0_Long.f k 2000 l1_1).bind fun t244 => (if t244 = true then (lockkeeperlaw14_AllowAll.j0 k l0 a2 a3 true l1_0 l1_1 a1_2) else ((lockkeeperlaw0_Long.f k 200 (([a2] : List ByteArray))).bind fun t248 => (lockkeeperlaw14_AllowAll.j0 k l0 a2 a3 t248 l1_0 l1_1 a1_2))))))) = some r := H
  have A7 := Aside0.mk A70
  clear A70
  by_cases c8 : t242 = true
  ·subst c8
   have H1 : (lockkeeperlaw14_AllowAll.j0 k l0 a2 a3 true l1_0 l1_1 a1_2) = some r := by rw [if_pos rfl] at H; exact H
   clear H
   have H := H1
   clear H1
   have H' := Aside0.mk H
   clear H
   go_wp2_with (first | ((with_reducible refine gate_callee (f := 7) rfl ?_); refine goesL_ (some 14) rfl rfl Tryd.func7 (by kernel_rfl) rfl #[.slice A0 l0.length c0] rfl (by (try simp only [List.map_toArray, List.map_cons, List.map_nil]); first | done | rfl | (simp only [List.length_drop, List.length_take]; rfl)) ?_; (with_reducible refine (lockkeeperlaw0_GreatHeaders.calls k _ _ l0 true _ ?side1 ?side2 A7.out).mono ?_); (case side1 => repeat (first | exact (Kd.C_below HR0.out HB.out) | (with_reducible refine Kd.C_alloc ?_ _) | (with_reducible refine Kd.C_drewN ?_ _) | (with_reducible refine Kd.C_drew ?_))); (case side2 => exact HC0.out); rintro e w' ⟨rfl, ⟨nd, rfl⟩⟩; refine ⟨_, rfl, ?_⟩))
   go_meet
   case rel => exact ⟨_, (true), (by first | rfl | (simp; done) | (simp [*]; done)), H', ⟨by first | omega | exact Nat.le_refl _⟩, ⟨by (with_reducible repeat (first | refine blk_drewN ?_ _ | refine blk_drew ?_ | refine blk_alloc ?_ _)); exact BK241.out⟩, ⟨by repeat (first | (with_reducible first | exact HB.out | apply below_alloc | apply pw_below_drewN | apply below_drew1 | refine below_set ?_ GE241.out) | exact HB.out)⟩⟩
  ·replace c8 := Bool.eq_false_iff.mpr c8
   subst c8
   have H1 : ((lockkeeperlaw0_Long.f k 2000 l1_0).bind fun t243 => (if t243 = true then (lockkeeperlaw14_AllowAll.j0 k l0 a2 a3 true l1_0 l1_1 a1_2) else ((lockkeeperlaw0_Long.f k 2000 l1_1).bind fun t244 => (if t244 = true then (lockkeeperlaw14_AllowAll.j0 k l0 a2 a3 true l1_0 l1_1 a1_2) else ((lockkeeperlaw0_Long.f k 200 (([a2] : List ByteArray))).bind fun t248 => (lockkeeperlaw14_AllowAll.j0 k l0 a2 a3 t248 l1_0 l1_1 a1_2)))))) = some r := by rw [if_neg (show ¬ (false = true) by decide)] at H; exact H
   clear H
   have H := H1
   clear H1
   replace H := Option.bind_eq_some_iff.mp H
   obtain ⟨t243, A90, H⟩ := H
   replace H : (if t243 = true then (lockkeeperlaw14_AllowAll.j0 k l0 a2 a3 true l1_0 l1_1 a1_2) else ((lockkeeperlaw0_Long.f k 2000 l1_1).bind fun t244 => (if t244 = true then (lockkeeperlaw14_AllowAll.j0 k l0 a2 a3 true l1_0 l1_1 a1_2) else ((lockkeeperlaw0_Long.f k 200 (([a2] : List ByteArray))).bind fun t248 => (lockkeeperlaw14_AllowAll.j0 k l0 a2 a3 t248 l1_0 l1_1 a1_2))))) = some r := H
   have A9 := Aside0.mk A90
   clear A90
   by_cases c10 : t243 = true
   ·subst c10
    have H1 : (lockkeeperlaw14_AllowAll.j0 k l0 a2 a3 true l1_0 l1_1 a1_2) = some r := by rw [if_pos rfl] at H; exact H
    clear H
    have H := H1
    clear H1
    have H' := Aside0.mk H
    clear H
    go_wp2_with (first | ((with_reducible refine gate_callee (f := 7) rfl ?_); refine goesL_ (some 14) rfl rfl Tryd.func7 (by kernel_rfl) rfl #[.slice A0 l0.length c0] rfl (by (try simp only [List.map_toArray, List.map_cons, List.map_nil]); first | done | rfl | (simp only [List.length_drop, List.length_take]; rfl)) ?_; (with_reducible refine (lockkeeperlaw0_GreatHeaders.calls k _ _ l0 false _ ?side1 ?side2 A7.out).mono ?_); (case side1 => repeat (first | exact (Kd.C_below HR0.out HB.out) | (with_reducible refine Kd.C_alloc ?_ _) | (with_reducible refine Kd.C_drewN ?_ _) | (with_reducible refine Kd.C_drew ?_))); (case side2 => exact HC0.out); rintro e w' ⟨rfl, ⟨nd, rfl⟩⟩; refine ⟨_, rfl, ?_⟩; have hcz11_0 : w6.cell? ⟨gb241, 0, none⟩ = some (.slice A1_0 l1_0.length c1_0) := (blk_cell BK241.out 0).trans rfl; have hcz11_1 : w6.cell? ⟨gb241, 1, none⟩ = some (.slice A1_1 l1_1.length c1_1) := (blk_cell BK241.out 1).trans rfl; have hcz11_2 : w6.cell? ⟨gb241, 2, none⟩ = some (.int .u64 a1_2) := (blk_cell BK241.out 2).trans rfl; have hfz11_0 := blk_frozen BK241.out 0; have hfz11_1 := blk_frozen BK241.out 1; have hfz11_2 := blk_frozen BK241.out 2) | (go_at_call 6; (with_reducible refine (lockkeeperlaw0_Long.calls k 2000 _ _ l1_0 true _ ?side1 ?side2 A9.out).mono ?_); (case side1 => repeat (first | exact (Kd.C_below HR1_0.out (by repeat (first | (with_reducible first | exact HB.out | apply below_alloc | apply pw_below_drewN | apply below_drew1 | refine below_set ?_ GE241.out) | exact HB.out))) | (with_reducible refine Kd.C_alloc ?_ _) | (with_reducible refine Kd.C_drewN ?_ _) | (with_reducible refine Kd.C_drew ?_))); (case side2 => exact HC1_0.out); rintro e w' ⟨rfl, ⟨nd, rfl⟩⟩))
    go_meet
    case rel => exact ⟨_, (true), (by first | rfl | (simp; done) | (simp [*]; done)), H', ⟨by first | omega | exact Nat.le_refl _⟩, ⟨by (with_reducible repeat (first | refine blk_drewN ?_ _ | refine blk_drew ?_ | refine blk_alloc ?_ _)); exact BK241.out⟩, ⟨by repeat (first | (with_reducible first | exact HB.out | apply below_alloc | apply pw_below_drewN | apply below_drew1 | refine below_set ?_ GE241.out) | exact HB.out)⟩⟩
   ·replace c10 := Bool.eq_false_iff.mpr c10
    subst c10
    have H1 : ((lockkeeperlaw0_Long.f k 2000 l1_1).bind fun t244 => (if t244 = true then (lockkeeperlaw14_AllowAll.j0 k l0 a2 a3 true l1_0 l1_1 a1_2) else ((lockkeeperlaw0_Long.f k 200 (([a2] : List ByteArray))).bind fun t248 => (lockkeeperlaw14_AllowAll.j0 k l0 a2 a3 t248 l1_0 l1_1 a1_2)))) = some r := by rw [if_neg (show ¬ (false = true) by decide)] at H; exact H
    clear H
    have H := H1
    clear H1
    replace H := Option.bind_eq_some_iff.mp H
    obtain ⟨t244, A120, H⟩ := H
    replace H : (if t244 = true then (lockkeeperlaw14_AllowAll.j0 k l0 a2 a3 true l1_0 l1_1 a1_2) else ((lockkeeperlaw0_Long.f k 200 (([a2] : List ByteArray))).bind fun t248 => (lockkeeperlaw14_AllowAll.j0 k l0 a2 a3 t248 l1_0 l1_1 a1_2))) = some r := H
    have A12 := Aside0.mk A120
    clear A120
    by_cases c13 : t244 = true
    ·subst c13
     have H1 : (lockkeeperlaw14_AllowAll.j0 k l0 a2 a3 true l1_0 l1_1 a1_2) = some r := by rw [if_pos rfl] at H; exact H
     clear H
     have H := H1
     clear H1
     have H' := Aside0.mk H
     clear H
     go_wp2_with (first | ((with_reducible refine gate_callee (f := 7) rfl ?_); refine goesL_ (some 14) rfl rfl Tryd.func7 (by kernel_rfl) rfl #[.slice A0 l0.length c0] rfl (by (try simp only [List.map_toArray, List.map_cons, List.map_nil]); first | done | rfl | (simp only [List.length_drop, List.length_take]; rfl)) ?_; (with_reducible refine (lockkeeperlaw0_GreatHeaders.calls k _ _ l0 false _ ?side1 ?side2 A7.out).mono ?_); (case side1 => repeat (first | exact (Kd.C_below HR0.out HB.out) | (with_reducible refine Kd.C_alloc ?_ _) | (with_reducible refine Kd.C_drewN ?_ _) | (with_reducible refine Kd.C_drew ?_))); (case side2 => exact HC0.out); rintro e w' ⟨rfl, ⟨nd, rfl⟩⟩; refine ⟨_, rfl, ?_⟩; have hcz14_0 : w6.cell? ⟨gb241, 0, none⟩ = some (.slice A1_0 l1_0.length c1_0) := (blk_cell BK241.out 0).trans rfl; have hcz14_1 : w6.cell? ⟨gb241, 1, none⟩ = some (.slice A1_1 l1_1.length c1_1) := (blk_cell BK241.out 1).trans rfl; have hcz14_2 : w6.cell? ⟨gb241, 2, none⟩ = some (.int .u64 a1_2) := (blk_cell BK241.out 2).trans rfl; have hfz14_0 := blk_frozen BK241.out 0; have hfz14_1 := blk_frozen BK241.out 1; have hfz14_2 := blk_frozen BK241.out 2) | (go_at_call 6; (with_reducible refine (lockkeeperlaw0_Long.calls k 2000 _ _ l1_0 false _ ?side1 ?side2 A9.out).mono ?_); (case side1 => repeat (first | exact (Kd.C_below HR1_0.out (by repeat (first | (with_reducible first | exact HB.out | apply below_alloc | apply pw_below_drewN | apply below_drew1 | refine below_set ?_ GE241.out) | exact HB.out))) | (with_reducible refine Kd.C_alloc ?_ _) | (with_reducible refine Kd.C_drewN ?_ _) | (with_reducible refine Kd.C_drew ?_))); (case side2 => exact HC1_0.out); rintro e w' ⟨rfl, ⟨nd, rfl⟩⟩) | (go_at_call 6; (with_reducible refine (lockkeeperlaw0_Long.calls k 2000 _ _ l1_1 true _ ?side1 ?side2 A12.out).mono ?_); (case side1 => repeat (first | exact (Kd.C_below HR1_1.out (by repeat (first | (with_reducible first | exact HB.out | apply below_alloc | apply pw_below_drewN | apply below_drew1 | refine below_set ?_ GE241.out) | exact HB.out))) | (with_reducible refine Kd.C_alloc ?_ _) | (with_reducible refine Kd.C_drewN ?_ _) | (with_reducible refine Kd.C_drew ?_))); (case side2 => exact HC1_1.out); rintro e w' ⟨rfl, ⟨nd, rfl⟩⟩))
     go_meet
     case rel => exact ⟨_, (true), (by first | rfl | (simp; done) | (simp [*]; done)), H', ⟨by first | omega | exact Nat.le_refl _⟩, ⟨by (with_reducible repeat (first | refine blk_drewN ?_ _ | refine blk_drew ?_ | refine blk_alloc ?_ _)); exact BK241.out⟩, ⟨by repeat (first | (with_reducible first | exact HB.out | apply below_alloc | apply pw_below_drewN | apply below_drew1 | refine below_set ?_ GE241.out) | exact HB.out)⟩⟩
    ·replace c13 := Bool.eq_false_iff.mpr c13
     subst c13
     have H1 : ((lockkeeperlaw0_Long.f k 200 (([a2] : List ByteArray))).bind fun t248 => (lockkeeperlaw14_AllowAll.j0 k l0 a2 a3 t248 l1_0 l1_1 a1_2)) = some r := by rw [if_neg (show ¬ (false = true) by decide)] at H; exact H
     clear H
     have H := H1
     clear H1
     obtain ⟨y245, hy245⟩ : ∃ y_ : List ByteArray, y_ = (([a2] : List ByteArray)) := ⟨_, rfl⟩
     replace H : ((lockkeeperlaw0_Long.f k 200 y245).bind fun t248 => (lockkeeperlaw14_AllowAll.j0 k l0 a2 a3 t248 l1_0 l1_1 a1_2)) = some r := by first | (rw [hy245]; with_reducible exact H) | (have H2_ := (Option.bind_some _ _).symm.trans H; rw [hy245]; with_reducible exact H2_) | (have H2_ := (Option.bind_some _ _).symm.trans H; with_reducible exact H2_) | with_reducible exact H | (rw [hy245]; exact H) | exact H
     have Ny245 := Aside0.mk hy245
     clear hy245
     replace H := Option.bind_eq_some_iff.mp H
     obtain ⟨t248, A150, H⟩ := H
     replace H : (lockkeeperlaw14_AllowAll.j0 k l0 a2 a3 t248 l1_0 l1_1 a1_2) = some r := H
     have A15 := Aside0.mk A150
     clear A150
     have H' := Aside0.mk H
     clear H
     go_wp2_with (first | ((with_reducible refine gate_callee (f := 7) rfl ?_); refine goesL_ (some 14) rfl rfl Tryd.func7 (by kernel_rfl) rfl #[.slice A0 l0.length c0] rfl (by (try simp only [List.map_toArray, List.map_cons, List.map_nil]); first | done | rfl | (simp only [List.length_drop, List.length_take]; rfl)) ?_; (with_reducible refine (lockkeeperlaw0_GreatHeaders.calls k _ _ l0 false _ ?side1 ?side2 A7.out).mono ?_); (case side1 => repeat (first | exact (Kd.C_below HR0.out HB.out) | (with_reducible refine Kd.C_alloc ?_ _) | (with_reducible refine Kd.C_drewN ?_ _) | (with_reducible refine Kd.C_drew ?_))); (case side2 => exact HC0.out); rintro e w' ⟨rfl, ⟨nd, rfl⟩⟩; refine ⟨_, rfl, ?_⟩; have hcz16_0 : w6.cell? ⟨gb241, 0, none⟩ = some (.slice A1_0 l1_0.length c1_0) := (blk_cell BK241.out 0).trans rfl; have hcz16_1 : w6.cell? ⟨gb241, 1, none⟩ = some (.slice A1_1 l1_1.length c1_1) := (blk_cell BK241.out 1).trans rfl; have hcz16_2 : w6.cell? ⟨gb241, 2, none⟩ = some (.int .u64 a1_2) := (blk_cell BK241.out 2).trans rfl; have hfz16_0 := blk_frozen BK241.out 0; have hfz16_1 := blk_frozen BK241.out 1; have hfz16_2 := blk_frozen BK241.out 2) | (go_at_call 6; (with_reducible refine (lockkeeperlaw0_Long.calls k 2000 _ _ l1_0 false _ ?side1 ?side2 A9.out).mono ?_); (case side1 => repeat (first | exact (Kd.C_below HR1_0.out (by repeat (first | (with_reducible first | exact HB.out | apply below_alloc | apply pw_below_drewN | apply below_drew1 | refine below_set ?_ GE241.out) | exact HB.out))) | (with_reducible refine Kd.C_alloc ?_ _) | (with_reducible refine Kd.C_drewN ?_ _) | (with_reducible refine Kd.C_drew ?_))); (case side2 => exact HC1_0.out); rintro e w' ⟨rfl, ⟨nd, rfl⟩⟩) | (go_at_call 6; (with_reducible refine (lockkeeperlaw0_Long.calls k 2000 _ _ l1_1 false _ ?side1 ?side2 A12.out).mono ?_); (case side1 => repeat (first | exact (Kd.C_below HR1_1.out (by repeat (first | (with_reducible first | exact HB.out | apply below_alloc | apply pw_below_drewN | apply below_drew1 | refine below_set ?_ GE241.out) | exact HB.out))) | (with_reducible refine Kd.C_alloc ?_ _) | (with_reducible refine Kd.C_drewN ?_ _) | (with_reducible refine Kd.C_drew ?_))); (case side2 => exact HC1_1.out); rintro e w' ⟨rfl, ⟨nd, rfl⟩⟩) | ((with_reducible refine gate_dst (N := 27) rfl ?_); (try (refine gate_guard (by rfl) ?_; dsimp only)); refine Kd.R_lit Kd.string _ 9 ?hg (N := 27) ?hd (xs := ([a2] : List ByteArray)) (inner := [.string a2]) (ok := fun _ => True) (okp := fun _ => True) ?hr ?hp (fun _ hk => hk) trivial (Below.refl _ _) (Nat.le_refl _) (by simp) ?_; (case hd => rfl); (case hg => rfl); (case hr => first | (go_simp; done) | (go_simp; rfl)); (case hp => exact (Reps.one (show Kd.M Kd.string _ _ _ a2 [.string a2] from rfl) (Reps.none _ _))); intro v246 w17 ho18 hb hg_ hnew_; clear hg_ hnew_; (first | rw [← Ny245.out] at ho18 | (simp only [Int.reduceToNat] at ho18; rw [← Ny245.out] at ho18)); have n0_ := Aside0.mk (Kd.R_lower ho18 (below_size (by repeat (first | (with_reducible first | exact HB.out | apply below_alloc | apply pw_below_drewN | apply below_drew1 | refine below_set ?_ GE241.out) | exact HB.out)))); have n1_ := Aside0.mk (blk_below (g := gb241) (o := .cells #[.slice A1_0 l1_0.length c1_0, .slice A1_1 l1_1.length c1_1, .int .u64 a1_2] 42 (0, 0)) (by (with_reducible repeat (first | refine blk_drewN ?_ _ | refine blk_drew ?_ | refine blk_alloc ?_ _)); exact BK241.out) hb); have n2_ := Aside0.mk (below_step (by repeat (first | (with_reducible first | exact HB.out | apply below_alloc | apply pw_below_drewN | apply below_drew1 | refine below_set ?_ GE241.out) | exact HB.out)) hb); clear BK241; clear HB; have HO247 := n0_; have BK241 := n1_; have HB := n2_; clear n0_ n1_ n2_; clear hb ho18; obtain ⟨Ao19, co19, eo19⟩ := Kd.R_slice HO247.out; subst eo19) | (go_at_call 6; (with_reducible refine (lockkeeperlaw0_Long.calls k 200 _ _ y245 t248 _ ?side1 ?side2 A15.out).mono ?_); (case side1 => repeat (first | exact (Kd.R_reads' HO247.out).2.2 | (with_reducible refine Kd.C_alloc ?_ _) | (with_reducible refine Kd.C_drewN ?_ _) | (with_reducible refine Kd.C_drew ?_))); (case side2 => exact (Kd.R_reads' HO247.out).2.1); rintro e w' ⟨rfl, ⟨nd, rfl⟩⟩))
     go_meet
     case rel => exact ⟨_, (t248), (by first | rfl | (simp; done) | (simp [*]; done)), H', ⟨by first | omega | exact Nat.le_refl _⟩, ⟨by (with_reducible repeat (first | refine blk_drewN ?_ _ | refine blk_drew ?_ | refine blk_alloc ?_ _)); exact BK241.out⟩, ⟨by repeat (first | (with_reducible first | exact HB.out | apply below_alloc | apply pw_below_drewN | apply below_drew1 | refine below_set ?_ GE241.out) | exact HB.out)⟩⟩
 case rest =>
  clear HC5
  try clear c1
  try clear p2
  try clear c5
  try clear c7
  try clear c8
  try clear c10
  try clear c13
  try clear hcz11_0
  try clear hcz11_1
  try clear hcz11_2
  try clear hcz14_0
  try clear hcz14_1
  try clear hcz14_2
  try clear hcz16_0
  try clear hcz16_1
  try clear hcz16_2
  try clear hfz11_0
  try clear hfz11_1
  try clear hfz11_2
  try clear hfz14_0
  try clear hfz14_1
  try clear hfz14_2
  try clear hfz16_0
  try clear hfz16_1
  try clear hfz16_2
  obtain ⟨kq, x29_4, rfl, HA, HJ4, BK241, HB⟩ := hcut
  cases kq with
  | zero => exact absurd HA.out (by simp [lockkeeperlaw14_AllowAll.j0])
  | succ kj4 =>
   have H := HA.out
   clear HA
   simp only [lockkeeperlaw14_AllowAll.j0] at H
   by_cases c20 : x29_4 = true
   ·subst c20
    have H1 : ((lockkeeperlaw14_awake.f kj4).bind fun t249 => (some t249)) = some r := by rw [if_pos rfl] at H; exact H
    clear H
    have H := H1
    clear H1
    replace H := Option.bind_eq_some_iff.mp H
    obtain ⟨t249, A210, H⟩ := H
    replace H : (some t249) = some r := H
    have A21 := Aside0.mk A210
    clear A210
    clear hr_
    obtain rfl := Option.some.inj H
    go_wp2_with (first | ((with_reducible refine gate_callee (f := 17) rfl ?_); refine goesL_ (some 30) rfl rfl Tryd.func17 (by kernel_rfl) rfl #[] rfl (by (try simp only [List.map_toArray, List.map_cons, List.map_nil]); first | done | rfl | (simp only [List.length_drop, List.length_take]; rfl)) ?_; (with_reducible refine (lockkeeperlaw14_awake.calls kj4  t249 _ A21.out).mono ?_); rintro e w22 ⟨rfl, hb⟩; refine ⟨_, rfl, ?_⟩; have n0_ := Aside0.mk (blk_below (g := gb241) (o := .cells #[.slice A1_0 l1_0.length c1_0, .slice A1_1 l1_1.length c1_1, .int .u64 a1_2] 42 (0, 0)) (by (with_reducible repeat (first | refine blk_drewN ?_ _ | refine blk_drew ?_ | refine blk_alloc ?_ _)); exact BK241.out) hb); have n1_ := Aside0.mk (below_step (by repeat (first | (with_reducible first | exact HB.out | apply below_alloc | apply pw_below_drewN | apply below_drew1 | refine below_set ?_ GE241.out) | exact HB.out)) hb); clear BK241; clear HB; have BK241 := n0_; have HB := n1_; clear n0_ n1_; (try clear hb); (try clear hb2); (try clear hk); (try clear hi)))
    go_ret
    exact ⟨by first | rfl | (simp [errW_none, errW_some] <;> rfl) | (simp [*, errW_none, errW_some] <;> rfl), by repeat (first | (with_reducible first | exact HB.out | apply below_alloc | apply pw_below_drewN | apply below_drew1 | refine below_set ?_ GE241.out) | exact HB.out)⟩
   ·replace c20 := Bool.eq_false_iff.mpr c20
    subst c20
    have H1 : ((allow_Read.f kj4 l0).bind fun bt250 => ((lockkeeperref14_Read.f kj4 l0).bind fun bt259 => ((lockkeeperlaw0_Allow.f kj4 bt250.1 bt250.2.1 bt250.2.2.1 bt259.1 bt259.2.1 bt259.2.2.1).bind fun t268 => (if t268 = true then (if bt250.2.2.2 = bt259.2.2.2 then ((allow_Has.f kj4 l1_0 l1_1 a1_2 a2 a3).bind fun t269 => ((lockkeeperref14_Has.f kj4 l1_0 l1_1 a1_2 a2 a3).bind fun t270 => (if (t269 == t270) = true then ((allow_Covers.f l1_0 l1_1 a1_2 a2 a3).bind fun t271 => ((lockkeeperref14_Covers.f kj4 l1_0 l1_1 a1_2 a2 a3).bind fun t272 => (if (t271 == t272) = true then ((lockkeeperlaw14_awake.f kj4).bind fun t273 => (some t273)) else (some false)))) else (some false)))) else (some false)) else (some false))))) = some r := by rw [if_neg (show ¬ (false = true) by decide)] at H; exact H
    clear H
    have H := H1
    clear H1
    replace H := Option.bind_eq_some_iff.mp H
    obtain ⟨⟨t250, t253, t256, t257⟩, A230, H⟩ := H
    replace H : ((lockkeeperref14_Read.f kj4 l0).bind fun bt259 => ((lockkeeperlaw0_Allow.f kj4 t250 t253 t256 bt259.1 bt259.2.1 bt259.2.2.1).bind fun t268 => (if t268 = true then (if t257 = bt259.2.2.2 then ((allow_Has.f kj4 l1_0 l1_1 a1_2 a2 a3).bind fun t269 => ((lockkeeperref14_Has.f kj4 l1_0 l1_1 a1_2 a2 a3).bind fun t270 => (if (t269 == t270) = true then ((allow_Covers.f l1_0 l1_1 a1_2 a2 a3).bind fun t271 => ((lockkeeperref14_Covers.f kj4 l1_0 l1_1 a1_2 a2 a3).bind fun t272 => (if (t271 == t272) = true then ((lockkeeperlaw14_awake.f kj4).bind fun t273 => (some t273)) else (some false)))) else (some false)))) else (some false)) else (some false)))) = some r := H
    have A23 := Aside0.mk A230
    clear A230
    replace H := Option.bind_eq_some_iff.mp H
    obtain ⟨⟨t259, t262, t265, t266⟩, A240, H⟩ := H
    replace H : ((lockkeeperlaw0_Allow.f kj4 t250 t253 t256 t259 t262 t265).bind fun t268 => (if t268 = true then (if t257 = t266 then ((allow_Has.f kj4 l1_0 l1_1 a1_2 a2 a3).bind fun t269 => ((lockkeeperref14_Has.f kj4 l1_0 l1_1 a1_2 a2 a3).bind fun t270 => (if (t269 == t270) = true then ((allow_Covers.f l1_0 l1_1 a1_2 a2 a3).bind fun t271 => ((lockkeeperref14_Covers.f kj4 l1_0 l1_1 a1_2 a2 a3).bind fun t272 => (if (t271 == t272) = true then ((lockkeeperlaw14_awake.f kj4).bind fun t273 => (some t273)) else (some false)))) else (some false)))) else (some false)) else (some false))) = some r := H
    have A24 := Aside0.mk A240
    clear A240
    replace H := Option.bind_eq_some_iff.mp H
    obtain ⟨t268, A250, H⟩ := H
    replace H : (if t268 = true then (if t257 = t266 then ((allow_Has.f kj4 l1_0 l1_1 a1_2 a2 a3).bind fun t269 => ((lockkeeperref14_Has.f kj4 l1_0 l1_1 a1_2 a2 a3).bind fun t270 => (if (t269 == t270) = true then ((allow_Covers.f l1_0 l1_1 a1_2 a2 a3).bind fun t271 => ((lockkeeperref14_Covers.f kj4 l1_0 l1_1 a1_2 a2 a3).bind fun t272 => (if (t271 == t272) = true then ((lockkeeperlaw14_awake.f kj4).bind fun t273 => (some t273)) else (some false)))) else (some false)))) else (some false)) else (some false)) = some r := H
    have A25 := Aside0.mk A250
    clear A250
    by_cases c26 : t268 = true
    ·subst c26
     have H1 : (if t257 = t266 then ((allow_Has.f kj4 l1_0 l1_1 a1_2 a2 a3).bind fun t269 => ((lockkeeperref14_Has.f kj4 l1_0 l1_1 a1_2 a2 a3).bind fun t270 => (if (t269 == t270) = true then ((allow_Covers.f l1_0 l1_1 a1_2 a2 a3).bind fun t271 => ((lockkeeperref14_Covers.f kj4 l1_0 l1_1 a1_2 a2 a3).bind fun t272 => (if (t271 == t272) = true then ((lockkeeperlaw14_awake.f kj4).bind fun t273 => (some t273)) else (some false)))) else (some false)))) else (some false)) = some r := by rw [if_pos rfl] at H; exact H
     clear H
     have H := H1
     clear H1
     by_cases c27 : t257 = t266
     ·rw [if_pos c27] at H
      have c27b0 : (t257 == t266) = true := beq_iff_eq.mpr c27
      have c27b1 : (t257 != t266) = false := bne_eq_false_iff_eq.mpr c27
      clear c27
      replace H := Option.bind_eq_some_iff.mp H
      obtain ⟨t269, A280, H⟩ := H
      replace H : ((lockkeeperref14_Has.f kj4 l1_0 l1_1 a1_2 a2 a3).bind fun t270 => (if (t269 == t270) = true then ((allow_Covers.f l1_0 l1_1 a1_2 a2 a3).bind fun t271 => ((lockkeeperref14_Covers.f kj4 l1_0 l1_1 a1_2 a2 a3).bind fun t272 => (if (t271 == t272) = true then ((lockkeeperlaw14_awake.f kj4).bind fun t273 => (some t273)) else (some false)))) else (some false))) = some r := H
      have A28 := Aside0.mk A280
      clear A280
      replace H := Option.bind_eq_some_iff.mp H
      obtain ⟨t270, A290, H⟩ := H
      replace H : (if (t269 == t270) = true then ((allow_Covers.f l1_0 l1_1 a1_2 a2 a3).bind fun t271 => ((lockkeeperref14_Covers.f kj4 l1_0 l1_1 a1_2 a2 a3).bind fun t272 => (if (t271 == t272) = true then ((lockkeeperlaw14_awake.f kj4).bind fun t273 => (some t273)) else (some false)))) else (some false)) = some r := H
      have A29 := Aside0.mk A290
      clear A290
      by_cases c30 : (t269 == t270) = true
      ·rw [if_pos c30] at H
       have c30b0 : (t269 == t270) = true := c30
       (try (have c30b1 : decide (t269 = t270) = true := by simpa using c30))
       (try (have c30b2 : (t269 == t270) = true := by simpa using c30))
       clear c30
       replace H := Option.bind_eq_some_iff.mp H
       obtain ⟨t271, A310, H⟩ := H
       replace H : ((lockkeeperref14_Covers.f kj4 l1_0 l1_1 a1_2 a2 a3).bind fun t272 => (if (t271 == t272) = true then ((lockkeeperlaw14_awake.f kj4).bind fun t273 => (some t273)) else (some false))) = some r := H
       have A31 := Aside0.mk A310
       clear A310
       replace H := Option.bind_eq_some_iff.mp H
       obtain ⟨t272, A320, H⟩ := H
       replace H : (if (t271 == t272) = true then ((lockkeeperlaw14_awake.f kj4).bind fun t273 => (some t273)) else (some false)) = some r := H
       have A32 := Aside0.mk A320
       clear A320
       by_cases c33 : (t271 == t272) = true
       ·rw [if_pos c33] at H
        have c33b0 : (t271 == t272) = true := c33
        (try (have c33b1 : decide (t271 = t272) = true := by simpa using c33))
        (try (have c33b2 : (t271 == t272) = true := by simpa using c33))
        clear c33
        replace H := Option.bind_eq_some_iff.mp H
        obtain ⟨t273, A340, H⟩ := H
        replace H : (some t273) = some r := H
        have A34 := Aside0.mk A340
        clear A340
        clear hr_
        obtain rfl := Option.some.inj H
        try go_wp2_with (first | ((with_reducible refine gate_callee (f := 18) rfl ?_); refine goesL_ (some 33) rfl rfl Tryd.func18 (by kernel_rfl) rfl #[.slice A0 l0.length c0] rfl (by (try simp only [List.map_toArray, List.map_cons, List.map_nil]); first | done | rfl | (simp only [List.length_drop, List.length_take]; rfl)) ?_; (with_reducible refine (allow_Read.calls kj4 _ _ l0 t250 t253 t256 t257 _ ?side1 ?side2 A23.out).mono ?_); (case side1 => repeat (first | exact (Kd.C_below HR0.out HB.out) | (with_reducible refine Kd.C_alloc ?_ _) | (with_reducible refine Kd.C_drewN ?_ _) | (with_reducible refine Kd.C_drew ?_))); (case side2 => exact HC0.out); rintro e w35 ⟨v251, v254, rfl, ho0, ho1, hb⟩; refine ⟨_, rfl, ?_⟩; have n0_ := Aside0.mk (Kd.R_lower ho0 (below_size (by repeat (first | (with_reducible first | exact HB.out | apply below_alloc | apply pw_below_drewN | apply below_drew1 | refine below_set ?_ GE241.out) | exact HB.out)))); have n1_ := Aside0.mk (Kd.R_lower ho1 (below_size (by repeat (first | (with_reducible first | exact HB.out | apply below_alloc | apply pw_below_drewN | apply below_drew1 | refine below_set ?_ GE241.out) | exact HB.out)))); have n2_ := Aside0.mk (blk_below (g := gb241) (o := .cells #[.slice A1_0 l1_0.length c1_0, .slice A1_1 l1_1.length c1_1, .int .u64 a1_2] 42 (0, 0)) (by (with_reducible repeat (first | refine blk_drewN ?_ _ | refine blk_drew ?_ | refine blk_alloc ?_ _)); exact BK241.out) hb); have n3_ := Aside0.mk (below_step (by repeat (first | (with_reducible first | exact HB.out | apply below_alloc | apply pw_below_drewN | apply below_drew1 | refine below_set ?_ GE241.out) | exact HB.out)) hb); clear BK241; clear HB; have HO252 := n0_; have HO255 := n1_; have BK241 := n2_; have HB := n3_; clear n0_ n1_ n2_ n3_; (try clear hb); (try clear hb2); (try clear hk); (try clear hi); (try clear ho0); (try clear ho1)) | ((with_reducible refine gate_dst (N := 9) rfl ?_); (try (refine gate_guard (by rfl) ?_; dsimp only)); refine box_event ?hg (N := 9) ?hd (cs := #[.slice none 0 0, .slice none 0 0, .int .u64 0]) (t := 42) ?hr ?_; (case hd => rfl); (case hg => rfl); (case hr => first | (go_simp; done) | (go_simp; rfl)); intro gb258 hg w36 hbox hb; have n0_ := Aside0.mk (Kd.R_below (by (with_reducible repeat (first | apply Kd.R_alloc | apply Kd.R_drewN | apply Kd.R_drew)); exact HO252.out) hb); have n1_ := Aside0.mk (Kd.R_below (by (with_reducible repeat (first | apply Kd.R_alloc | apply Kd.R_drewN | apply Kd.R_drew)); exact HO255.out) hb); have n2_ := Aside0.mk (blk_below (g := gb241) (o := .cells #[.slice A1_0 l1_0.length c1_0, .slice A1_1 l1_1.length c1_1, .int .u64 a1_2] 42 (0, 0)) (by (with_reducible repeat (first | refine blk_drewN ?_ _ | refine blk_drew ?_ | refine blk_alloc ?_ _)); exact BK241.out) hb); have n3_ := Aside0.mk (below_step (by repeat (first | (with_reducible first | exact HB.out | apply below_alloc | apply pw_below_drewN | apply below_drew1 | refine below_set ?_ GE241.out) | exact HB.out)) hb); have n4_ := Aside0.mk (hbox); have n5_ := Aside0.mk ((by rw [hg]; exact (below_size (by repeat (first | (with_reducible first | exact HB.out | apply below_alloc | apply pw_below_drewN | apply below_drew1 | refine below_set ?_ GE241.out) | exact HB.out))) : w.heap.size ≤ gb258)); have n6_ := Aside0.mk ((by rw [hg]; exact (below_size (by repeat (first | (with_reducible first | exact HB.out | apply below_alloc | apply pw_below_drewN | apply below_drew1 | refine below_set ?_ GE241.out) | exact HB.out))) : w.heap.size ≤ gb258)); have n7_ := Aside0.mk ((by rw [hg]; exact Nat.ne_of_lt (blk_lt (g := gb241) (o := .cells #[.slice A1_0 l1_0.length c1_0, .slice A1_1 l1_1.length c1_1, .int .u64 a1_2] 42 (0, 0)) (by (with_reducible repeat (first | refine blk_drewN ?_ _ | refine blk_drew ?_ | refine blk_alloc ?_ _)); exact BK241.out)) : gb241 ≠ gb258)); have n8_ := Aside0.mk ((by rw [hg]; exact Nat.ne_of_gt (blk_lt (g := gb241) (o := .cells #[.slice A1_0 l1_0.length c1_0, .slice A1_1 l1_1.length c1_1, .int .u64 a1_2] 42 (0, 0)) (by (with_reducible repeat (first | refine blk_drewN ?_ _ | refine blk_drew ?_ | refine blk_alloc ?_ _)); exact BK241.out)) : gb258 ≠ gb241)); clear HO252; clear HO255; clear BK241; clear HB; have HO252 := n0_; have HO255 := n1_; have BK241 := n2_; have HB := n3_; have BK258 := n4_; have GW258 := n5_; have GE258 := n6_; have NB241_258 := n7_; have NB258_241 := n8_; clear n0_ n1_ n2_ n3_ n4_ n5_ n6_ n7_ n8_; clear hb hbox hg; obtain ⟨Ao37, co37, eo37⟩ := Kd.R_slice HO252.out; subst eo37; have hnb38 := NB258_241.out; have hnc38 := NB241_258.out; have hcz39_0 : w36.cell? ⟨gb258, 0, none⟩ = some (.slice none 0 0) := (blk_cell BK258.out 0).trans rfl; have hcz39_1 : w36.cell? ⟨gb258, 1, none⟩ = some (.slice none 0 0) := (blk_cell BK258.out 1).trans rfl; have hcz39_2 : w36.cell? ⟨gb258, 2, none⟩ = some (.int .u64 0) := (blk_cell BK258.out 2).trans rfl; have hfz39_0 := blk_frozen BK258.out 0; have hfz39_1 := blk_frozen BK258.out 1; have hfz39_2 := blk_frozen BK258.out 2; obtain ⟨Ao40, co40, eo40⟩ := Kd.R_slice HO255.out; subst eo40) | ((with_reducible refine gate_callee (f := 19) rfl ?_); refine goesL_ (some 38) rfl rfl Tryd.func19 (by kernel_rfl) rfl #[.slice A0 l0.length c0] rfl (by (try simp only [List.map_toArray, List.map_cons, List.map_nil]); first | done | rfl | (simp only [List.length_drop, List.length_take]; rfl)) ?_; (with_reducible refine (lockkeeperref14_Read.calls kj4 _ _ l0 t259 t262 t265 t266 _ ?side1 ?side2 A24.out).mono ?_); (case side1 => exact Kd.C_below HR0.out (by repeat (first | (with_reducible first | exact HB.out | apply below_alloc | apply pw_below_drewN | apply below_drew1 | refine below_set ?_ GE241.out | refine below_set ?_ GE258.out) | exact HB.out))); (case side2 => exact HC0.out); rintro e w41 ⟨v260, v263, rfl, ho0, ho1, hb⟩; refine ⟨_, rfl, ?_⟩; have n0_ := Aside0.mk (Kd.R_mono (Kd.R_told (Kd.R_told (Kd.R_old (by (with_reducible repeat (first | apply Kd.R_alloc | apply Kd.R_drewN | apply Kd.R_drew)); exact (Kd.R_mono (Kd.R_far (p := ⟨gb258, 2, none⟩) (Kd.R_far (p := ⟨gb258, 1, none⟩) (Kd.R_far (p := ⟨gb258, 0, none⟩) (Kd.R_types HO252.out BK258.out (by decide)) (fun _ hk => hk.2) (.slice Ao37 t250.length co37)) (fun _ hk => hk.2) (.slice Ao40 t253.length co40)) (fun _ hk => hk.2) (.int .u64 t256)) (fun _ h_ => h_.1))) hb) (Kd.R_base ho0)) (Kd.R_base ho1)) (fun _ h_ => h_.1)); have n1_ := Aside0.mk (Kd.R_mono (Kd.R_told (Kd.R_told (Kd.R_old (by (with_reducible repeat (first | apply Kd.R_alloc | apply Kd.R_drewN | apply Kd.R_drew)); exact (Kd.R_mono (Kd.R_far (p := ⟨gb258, 2, none⟩) (Kd.R_far (p := ⟨gb258, 1, none⟩) (Kd.R_far (p := ⟨gb258, 0, none⟩) (Kd.R_types HO255.out BK258.out (by decide)) (fun _ hk => hk.2) (.slice Ao37 t250.length co37)) (fun _ hk => hk.2) (.slice Ao40 t253.length co40)) (fun _ hk => hk.2) (.int .u64 t256)) (fun _ h_ => h_.1))) hb) (Kd.R_base ho0)) (Kd.R_base ho1)) (fun _ h_ => h_.1)); have n2_ := Aside0.mk (Kd.R_lower (Kd.R_new' (Kd.R_new' ho0 (Kd.R_lt (by (with_reducible repeat (first | apply Kd.R_alloc | apply Kd.R_drewN | apply Kd.R_drew)); exact (Kd.R_mono (Kd.R_far (p := ⟨gb258, 2, none⟩) (Kd.R_far (p := ⟨gb258, 1, none⟩) (Kd.R_far (p := ⟨gb258, 0, none⟩) (Kd.R_types HO252.out BK258.out (by decide)) (fun _ hk => hk.2) (.slice Ao37 t250.length co37)) (fun _ hk => hk.2) (.slice Ao40 t253.length co40)) (fun _ hk => hk.2) (.int .u64 t256)) (fun _ h_ => h_.1))))) (Kd.R_lt (by (with_reducible repeat (first | apply Kd.R_alloc | apply Kd.R_drewN | apply Kd.R_drew)); exact (Kd.R_mono (Kd.R_far (p := ⟨gb258, 2, none⟩) (Kd.R_far (p := ⟨gb258, 1, none⟩) (Kd.R_far (p := ⟨gb258, 0, none⟩) (Kd.R_types HO255.out BK258.out (by decide)) (fun _ hk => hk.2) (.slice Ao37 t250.length co37)) (fun _ hk => hk.2) (.slice Ao40 t253.length co40)) (fun _ hk => hk.2) (.int .u64 t256)) (fun _ h_ => h_.1))))) (below_size (by repeat (first | (with_reducible first | exact HB.out | apply below_alloc | apply pw_below_drewN | apply below_drew1 | refine below_set ?_ GE241.out | refine below_set ?_ GE258.out) | exact HB.out)))); have n3_ := Aside0.mk (Kd.R_lower (Kd.R_new' (Kd.R_new' ho1 (Kd.R_lt (by (with_reducible repeat (first | apply Kd.R_alloc | apply Kd.R_drewN | apply Kd.R_drew)); exact (Kd.R_mono (Kd.R_far (p := ⟨gb258, 2, none⟩) (Kd.R_far (p := ⟨gb258, 1, none⟩) (Kd.R_far (p := ⟨gb258, 0, none⟩) (Kd.R_types HO252.out BK258.out (by decide)) (fun _ hk => hk.2) (.slice Ao37 t250.length co37)) (fun _ hk => hk.2) (.slice Ao40 t253.length co40)) (fun _ hk => hk.2) (.int .u64 t256)) (fun _ h_ => h_.1))))) (Kd.R_lt (by (with_reducible repeat (first | apply Kd.R_alloc | apply Kd.R_drewN | apply Kd.R_drew)); exact (Kd.R_mono (Kd.R_far (p := ⟨gb258, 2, none⟩) (Kd.R_far (p := ⟨gb258, 1, none⟩) (Kd.R_far (p := ⟨gb258, 0, none⟩) (Kd.R_types HO255.out BK258.out (by decide)) (fun _ hk => hk.2) (.slice Ao37 t250.length co37)) (fun _ hk => hk.2) (.slice Ao40 t253.length co40)) (fun _ hk => hk.2) (.int .u64 t256)) (fun _ h_ => h_.1))))) (below_size (by repeat (first | (with_reducible first | exact HB.out | apply below_alloc | apply pw_below_drewN | apply below_drew1 | refine below_set ?_ GE241.out | refine below_set ?_ GE258.out) | exact HB.out)))); have n4_ := Aside0.mk (blk_below (g := gb241) (o := .cells #[.slice A1_0 l1_0.length c1_0, .slice A1_1 l1_1.length c1_1, .int .u64 a1_2] 42 (0, 0)) (by (with_reducible repeat (first | refine blk_drewN ?_ _ | refine blk_drew ?_ | refine blk_alloc ?_ _)); refine blk_far ?_ NB241_258.out _; (with_reducible repeat (first | refine blk_drewN ?_ _ | refine blk_drew ?_ | refine blk_alloc ?_ _)); refine blk_far ?_ NB241_258.out _; (with_reducible repeat (first | refine blk_drewN ?_ _ | refine blk_drew ?_ | refine blk_alloc ?_ _)); refine blk_far ?_ NB241_258.out _; (with_reducible repeat (first | refine blk_drewN ?_ _ | refine blk_drew ?_ | refine blk_alloc ?_ _)); exact BK241.out) hb); have n5_ := Aside0.mk (blk_below (g := gb258) (o := .cells #[.slice Ao37 t250.length co37, .slice Ao40 t253.length co40, .int .u64 t256] 42 (0, 0)) (by (with_reducible repeat (first | refine blk_drewN ?_ _ | refine blk_drew ?_ | refine blk_alloc ?_ _)); refine blk_put (cs := #[.slice Ao37 t250.length co37, .slice Ao40 t253.length co40, .int .u64 0]) ?_ 2 _ rfl; (with_reducible repeat (first | refine blk_drewN ?_ _ | refine blk_drew ?_ | refine blk_alloc ?_ _)); refine blk_put (cs := #[.slice Ao37 t250.length co37, .slice none 0 0, .int .u64 0]) ?_ 1 _ rfl; (with_reducible repeat (first | refine blk_drewN ?_ _ | refine blk_drew ?_ | refine blk_alloc ?_ _)); refine blk_put (cs := #[.slice none 0 0, .slice none 0 0, .int .u64 0]) ?_ 0 _ rfl; (with_reducible repeat (first | refine blk_drewN ?_ _ | refine blk_drew ?_ | refine blk_alloc ?_ _)); exact BK258.out) hb); have n6_ := Aside0.mk (below_step (by repeat (first | (with_reducible first | exact HB.out | apply below_alloc | apply pw_below_drewN | apply below_drew1 | refine below_set ?_ GE241.out | refine below_set ?_ GE258.out) | exact HB.out)) hb); clear HO252; clear HO255; clear BK241; clear BK258; clear HB; have HO252 := n0_; have HO255 := n1_; have HO261 := n2_; have HO264 := n3_; have BK241 := n4_; have BK258 := n5_; have HB := n6_; clear n0_ n1_ n2_ n3_ n4_ n5_ n6_; (try clear hb); (try clear hb2); (try clear hk); (try clear hi); (try clear ho0); (try clear ho1)) | ((with_reducible refine gate_dst (N := 11) rfl ?_); (try (refine gate_guard (by rfl) ?_; dsimp only)); refine box_event ?hg (N := 11) ?hd (cs := #[.slice none 0 0, .slice none 0 0, .int .u64 0]) (t := 42) ?hr ?_; (case hd => rfl); (case hg => rfl); (case hr => first | (go_simp; done) | (go_simp; rfl)); intro gb267 hg w42 hbox hb; have n0_ := Aside0.mk (Kd.R_below (by (with_reducible repeat (first | apply Kd.R_alloc | apply Kd.R_drewN | apply Kd.R_drew)); exact HO252.out) hb); have n1_ := Aside0.mk (Kd.R_below (by (with_reducible repeat (first | apply Kd.R_alloc | apply Kd.R_drewN | apply Kd.R_drew)); exact HO255.out) hb); have n2_ := Aside0.mk (Kd.R_below (by (with_reducible repeat (first | apply Kd.R_alloc | apply Kd.R_drewN | apply Kd.R_drew)); exact HO261.out) hb); have n3_ := Aside0.mk (Kd.R_below (by (with_reducible repeat (first | apply Kd.R_alloc | apply Kd.R_drewN | apply Kd.R_drew)); exact HO264.out) hb); have n4_ := Aside0.mk (blk_below (g := gb241) (o := .cells #[.slice A1_0 l1_0.length c1_0, .slice A1_1 l1_1.length c1_1, .int .u64 a1_2] 42 (0, 0)) (by (with_reducible repeat (first | refine blk_drewN ?_ _ | refine blk_drew ?_ | refine blk_alloc ?_ _)); exact BK241.out) hb); have n5_ := Aside0.mk (blk_below (g := gb258) (o := .cells #[.slice Ao37 t250.length co37, .slice Ao40 t253.length co40, .int .u64 t256] 42 (0, 0)) (by (with_reducible repeat (first | refine blk_drewN ?_ _ | refine blk_drew ?_ | refine blk_alloc ?_ _)); exact BK258.out) hb); have n6_ := Aside0.mk (below_step (by repeat (first | (with_reducible first | exact HB.out | apply below_alloc | apply pw_below_drewN | apply below_drew1 | refine below_set ?_ GE241.out | refine below_set ?_ GE258.out) | exact HB.out)) hb); have n7_ := Aside0.mk (hbox); have n8_ := Aside0.mk ((by rw [hg]; exact (below_size (by repeat (first | (with_reducible first | exact HB.out | apply below_alloc | apply pw_below_drewN | apply below_drew1 | refine below_set ?_ GE241.out | refine below_set ?_ GE258.out) | exact HB.out))) : w.heap.size ≤ gb267)); have n9_ := Aside0.mk ((by rw [hg]; exact (below_size (by repeat (first | (with_reducible first | exact HB.out | apply below_alloc | apply pw_below_drewN | apply below_drew1 | refine below_set ?_ GE241.out | refine below_set ?_ GE258.out) | exact HB.out))) : w.heap.size ≤ gb267)); have n10_ := Aside0.mk ((by rw [hg]; exact Nat.ne_of_lt (blk_lt (g := gb241) (o := .cells #[.slice A1_0 l1_0.length c1_0, .slice A1_1 l1_1.length c1_1, .int .u64 a1_2] 42 (0, 0)) (by (with_reducible repeat (first | refine blk_drewN ?_ _ | refine blk_drew ?_ | refine blk_alloc ?_ _)); exact BK241.out)) : gb241 ≠ gb267)); have n11_ := Aside0.mk ((by rw [hg]; exact Nat.ne_of_gt (blk_lt (g := gb241) (o := .cells #[.slice A1_0 l1_0.length c1_0, .slice A1_1 l1_1.length c1_1, .int .u64 a1_2] 42 (0, 0)) (by (with_reducible repeat (first | refine blk_drewN ?_ _ | refine blk_drew ?_ | refine blk_alloc ?_ _)); exact BK241.out)) : gb267 ≠ gb241)); have n12_ := Aside0.mk ((by rw [hg]; exact Nat.ne_of_lt (blk_lt (g := gb258) (o := .cells #[.slice Ao37 t250.length co37, .slice Ao40 t253.length co40, .int .u64 t256] 42 (0, 0)) (by (with_reducible repeat (first | refine blk_drewN ?_ _ | refine blk_drew ?_ | refine blk_alloc ?_ _)); exact BK258.out)) : gb258 ≠ gb267)); have n13_ := Aside0.mk ((by rw [hg]; exact Nat.ne_of_gt (blk_lt (g := gb258) (o := .cells #[.slice Ao37 t250.length co37, .slice Ao40 t253.length co40, .int .u64 t256] 42 (0, 0)) (by (with_reducible repeat (first | refine blk_drewN ?_ _ | refine blk_drew ?_ | refine blk_alloc ?_ _)); exact BK258.out)) : gb267 ≠ gb258)); clear HO252; clear HO255; clear HO261; clear HO264; clear BK241; clear BK258; clear HB; have HO252 := n0_; have HO255 := n1_; have HO261 := n2_; have HO264 := n3_; have BK241 := n4_; have BK258 := n5_; have HB := n6_; have BK267 := n7_; have GW267 := n8_; have GE267 := n9_; have NB241_267 := n10_; have NB267_241 := n11_; have NB258_267 := n12_; have NB267_258 := n13_; clear n0_ n1_ n2_ n3_ n4_ n5_ n6_ n7_ n8_ n9_ n10_ n11_ n12_ n13_; clear hb hbox hg; obtain ⟨Ao43, co43, eo43⟩ := Kd.R_slice HO261.out; subst eo43; have hnb44 := NB267_241.out; have hnc44 := NB241_267.out; have hnb45 := NB267_258.out; have hnc45 := NB258_267.out; have hcz46_0 : w42.cell? ⟨gb267, 0, none⟩ = some (.slice none 0 0) := (blk_cell BK267.out 0).trans rfl; have hcz46_1 : w42.cell? ⟨gb267, 1, none⟩ = some (.slice none 0 0) := (blk_cell BK267.out 1).trans rfl; have hcz46_2 : w42.cell? ⟨gb267, 2, none⟩ = some (.int .u64 0) := (blk_cell BK267.out 2).trans rfl; have hfz46_0 := blk_frozen BK267.out 0; have hfz46_1 := blk_frozen BK267.out 1; have hfz46_2 := blk_frozen BK267.out 2; obtain ⟨Ao47, co47, eo47⟩ := Kd.R_slice HO264.out; subst eo47))
        have n0_ : Aside0 (Kd.R Kd.string 9 (((w42.setCell ⟨gb267, 0, none⟩ (.slice Ao43 t259.length co43)).setCell ⟨gb267, 1, none⟩ (.slice Ao47 t262.length co47)).setCell ⟨gb267, 2, none⟩ (.int .u64 t265)) w.heap.size (fun k_ => some k_ ≠ (.slice Ao40 t253.length co40 : Value).ownBlock ∧ some k_ ≠ (.slice Ao43 t259.length co43 : Value).ownBlock ∧ some k_ ≠ (.slice Ao47 t262.length co47 : Value).ownBlock) (.slice Ao37 t250.length co37) t250) := ⟨by (with_reducible repeat (first | apply Kd.R_alloc | apply Kd.R_drewN | apply Kd.R_drew)); exact Kd.R_mono (Kd.R_far (p := ⟨gb267, 2, none⟩) (Kd.R_far (p := ⟨gb267, 1, none⟩) (Kd.R_far (p := ⟨gb267, 0, none⟩) (Kd.R_types HO252.out BK267.out (by decide)) (fun _ hk => hk.2) (.slice Ao43 t259.length co43)) (fun _ hk => hk.2) (.slice Ao47 t262.length co47)) (fun _ hk => hk.2) (.int .u64 t265)) (fun _ hk => ⟨hk.1.1.1, ⟨hk.1.1.2, hk.1.2⟩⟩)⟩
        have n1_ : Aside0 (Kd.R Kd.string 9 (((w42.setCell ⟨gb267, 0, none⟩ (.slice Ao43 t259.length co43)).setCell ⟨gb267, 1, none⟩ (.slice Ao47 t262.length co47)).setCell ⟨gb267, 2, none⟩ (.int .u64 t265)) w.heap.size (fun k_ => some k_ ≠ (.slice Ao37 t250.length co37 : Value).ownBlock ∧ some k_ ≠ (.slice Ao43 t259.length co43 : Value).ownBlock ∧ some k_ ≠ (.slice Ao47 t262.length co47 : Value).ownBlock) (.slice Ao40 t253.length co40) t253) := ⟨by (with_reducible repeat (first | apply Kd.R_alloc | apply Kd.R_drewN | apply Kd.R_drew)); exact Kd.R_mono (Kd.R_far (p := ⟨gb267, 2, none⟩) (Kd.R_far (p := ⟨gb267, 1, none⟩) (Kd.R_far (p := ⟨gb267, 0, none⟩) (Kd.R_types HO255.out BK267.out (by decide)) (fun _ hk => hk.2) (.slice Ao43 t259.length co43)) (fun _ hk => hk.2) (.slice Ao47 t262.length co47)) (fun _ hk => hk.2) (.int .u64 t265)) (fun _ hk => ⟨hk.1.1.1, ⟨hk.1.1.2, hk.1.2⟩⟩)⟩
        have n2_ : Aside0 (Kd.R Kd.string 9 (((w42.setCell ⟨gb267, 0, none⟩ (.slice Ao43 t259.length co43)).setCell ⟨gb267, 1, none⟩ (.slice Ao47 t262.length co47)).setCell ⟨gb267, 2, none⟩ (.int .u64 t265)) w.heap.size (fun k_ => some k_ ≠ (.slice Ao37 t250.length co37 : Value).ownBlock ∧ some k_ ≠ (.slice Ao40 t253.length co40 : Value).ownBlock ∧ some k_ ≠ (.slice Ao47 t262.length co47 : Value).ownBlock) (.slice Ao43 t259.length co43) t259) := ⟨by (with_reducible repeat (first | apply Kd.R_alloc | apply Kd.R_drewN | apply Kd.R_drew)); exact Kd.R_mono (Kd.R_far (p := ⟨gb267, 2, none⟩) (Kd.R_far (p := ⟨gb267, 1, none⟩) (Kd.R_far (p := ⟨gb267, 0, none⟩) (Kd.R_types HO261.out BK267.out (by decide)) (fun _ hk => hk.2) (.slice Ao43 t259.length co43)) (fun _ hk => hk.2) (.slice Ao47 t262.length co47)) (fun _ hk => hk.2) (.int .u64 t265)) (fun _ hk => ⟨hk.1.1.2, ⟨hk.1.2, hk.1.1.1⟩⟩)⟩
        have n3_ : Aside0 (Kd.R Kd.string 9 (((w42.setCell ⟨gb267, 0, none⟩ (.slice Ao43 t259.length co43)).setCell ⟨gb267, 1, none⟩ (.slice Ao47 t262.length co47)).setCell ⟨gb267, 2, none⟩ (.int .u64 t265)) w.heap.size (fun k_ => some k_ ≠ (.slice Ao37 t250.length co37 : Value).ownBlock ∧ some k_ ≠ (.slice Ao40 t253.length co40 : Value).ownBlock ∧ some k_ ≠ (.slice Ao43 t259.length co43 : Value).ownBlock) (.slice Ao47 t262.length co47) t262) := ⟨by (with_reducible repeat (first | apply Kd.R_alloc | apply Kd.R_drewN | apply Kd.R_drew)); exact Kd.R_mono (Kd.R_far (p := ⟨gb267, 2, none⟩) (Kd.R_far (p := ⟨gb267, 1, none⟩) (Kd.R_far (p := ⟨gb267, 0, none⟩) (Kd.R_types HO264.out BK267.out (by decide)) (fun _ hk => hk.2) (.slice Ao43 t259.length co43)) (fun _ hk => hk.2) (.slice Ao47 t262.length co47)) (fun _ hk => hk.2) (.int .u64 t265)) (fun _ hk => ⟨hk.1.1.2, ⟨hk.1.2, hk.1.1.1⟩⟩)⟩
        have n4_ : Aside0 ((((w42.setCell ⟨gb267, 0, none⟩ (.slice Ao43 t259.length co43)).setCell ⟨gb267, 1, none⟩ (.slice Ao47 t262.length co47)).setCell ⟨gb267, 2, none⟩ (.int .u64 t265)).heap[gb241]? = some (.cells #[.slice A1_0 l1_0.length c1_0, .slice A1_1 l1_1.length c1_1, .int .u64 a1_2] 42 (0, 0))) := ⟨by (with_reducible repeat (first | refine blk_drewN ?_ _ | refine blk_drew ?_ | refine blk_alloc ?_ _)); refine blk_far ?_ NB241_267.out _; (with_reducible repeat (first | refine blk_drewN ?_ _ | refine blk_drew ?_ | refine blk_alloc ?_ _)); refine blk_far ?_ NB241_267.out _; (with_reducible repeat (first | refine blk_drewN ?_ _ | refine blk_drew ?_ | refine blk_alloc ?_ _)); refine blk_far ?_ NB241_267.out _; (with_reducible repeat (first | refine blk_drewN ?_ _ | refine blk_drew ?_ | refine blk_alloc ?_ _)); exact BK241.out⟩
        have n5_ : Aside0 ((((w42.setCell ⟨gb267, 0, none⟩ (.slice Ao43 t259.length co43)).setCell ⟨gb267, 1, none⟩ (.slice Ao47 t262.length co47)).setCell ⟨gb267, 2, none⟩ (.int .u64 t265)).heap[gb258]? = some (.cells #[.slice Ao37 t250.length co37, .slice Ao40 t253.length co40, .int .u64 t256] 42 (0, 0))) := ⟨by (with_reducible repeat (first | refine blk_drewN ?_ _ | refine blk_drew ?_ | refine blk_alloc ?_ _)); refine blk_far ?_ NB258_267.out _; (with_reducible repeat (first | refine blk_drewN ?_ _ | refine blk_drew ?_ | refine blk_alloc ?_ _)); refine blk_far ?_ NB258_267.out _; (with_reducible repeat (first | refine blk_drewN ?_ _ | refine blk_drew ?_ | refine blk_alloc ?_ _)); refine blk_far ?_ NB258_267.out _; (with_reducible repeat (first | refine blk_drewN ?_ _ | refine blk_drew ?_ | refine blk_alloc ?_ _)); exact BK258.out⟩
        have n6_ : Aside0 ((((w42.setCell ⟨gb267, 0, none⟩ (.slice Ao43 t259.length co43)).setCell ⟨gb267, 1, none⟩ (.slice Ao47 t262.length co47)).setCell ⟨gb267, 2, none⟩ (.int .u64 t265)).heap[gb267]? = some (.cells #[.slice Ao43 t259.length co43, .slice Ao47 t262.length co47, .int .u64 t265] 42 (0, 0))) := ⟨by (with_reducible repeat (first | refine blk_drewN ?_ _ | refine blk_drew ?_ | refine blk_alloc ?_ _)); refine blk_put (cs := #[.slice Ao43 t259.length co43, .slice Ao47 t262.length co47, .int .u64 0]) ?_ 2 _ rfl; (with_reducible repeat (first | refine blk_drewN ?_ _ | refine blk_drew ?_ | refine blk_alloc ?_ _)); refine blk_put (cs := #[.slice Ao43 t259.length co43, .slice none 0 0, .int .u64 0]) ?_ 1 _ rfl; (with_reducible repeat (first | refine blk_drewN ?_ _ | refine blk_drew ?_ | refine blk_alloc ?_ _)); refine blk_put (cs := #[.slice none 0 0, .slice none 0 0, .int .u64 0]) ?_ 0 _ rfl; (with_reducible repeat (first | refine blk_drewN ?_ _ | refine blk_drew ?_ | refine blk_alloc ?_ _)); exact BK267.out⟩
        have n7_ : Aside0 (Below w.heap.size w (((w42.setCell ⟨gb267, 0, none⟩ (.slice Ao43 t259.length co43)).setCell ⟨gb267, 1, none⟩ (.slice Ao47 t262.length co47)).setCell ⟨gb267, 2, none⟩ (.int .u64 t265))) := ⟨by repeat (first | (with_reducible first | exact HB.out | apply below_alloc | apply pw_below_drewN | apply below_drew1 | refine below_set ?_ GE241.out | refine below_set ?_ GE258.out | refine below_set ?_ GE267.out) | exact HB.out)⟩
        (try clear HO252)
        (try clear HO255)
        (try clear HO261)
        (try clear HO264)
        (try clear BK241)
        (try clear BK258)
        (try clear BK267)
        (try clear HB)
        generalize (((w42.setCell ⟨gb267, 0, none⟩ (.slice Ao43 t259.length co43)).setCell ⟨gb267, 1, none⟩ (.slice Ao47 t262.length co47)).setCell ⟨gb267, 2, none⟩ (.int .u64 t265)) = w48 at n0_ n1_ n2_ n3_ n4_ n5_ n6_ n7_ ⊢
        have HO252 := n0_
        have HO255 := n1_
        have HO261 := n2_
        have HO264 := n3_
        have BK241 := n4_
        have BK258 := n5_
        have BK267 := n6_
        have HB := n7_
        clear n0_ n1_ n2_ n3_ n4_ n5_ n6_ n7_
        have n0_ := Aside0.mk (Kd.R_drew HO252.out)
        have n1_ := Aside0.mk (Kd.R_drew HO255.out)
        have n2_ := Aside0.mk (Kd.R_drew HO261.out)
        have n3_ := Aside0.mk (Kd.R_drew HO264.out)
        have n4_ := Aside0.mk (blk_drew BK241.out)
        have n5_ := Aside0.mk (blk_drew BK258.out)
        have n6_ := Aside0.mk (blk_drew BK267.out)
        have n7_ := Aside0.mk (below_drew1 HB.out)
        clear HO252
        clear HO255
        clear HO261
        clear HO264
        clear BK241
        clear BK258
        clear BK267
        clear HB
        have HO252 := n0_
        have HO255 := n1_
        have HO261 := n2_
        have HO264 := n3_
        have BK241 := n4_
        have BK258 := n5_
        have BK267 := n6_
        have HB := n7_
        clear n0_ n1_ n2_ n3_ n4_ n5_ n6_ n7_
        refine start_ (n := 34) (S := fun w' => w'.cell? ⟨gb258, 0, none⟩ = some (.slice Ao37 t250.length co37) ∧ w'.cell? ⟨gb258, 1, none⟩ = some (.slice Ao40 t253.length co40) ∧ w'.cell? ⟨gb258, 2, none⟩ = some (.int .u64 t256) ∧ w'.cell? ⟨gb267, 0, none⟩ = some (.slice Ao43 t259.length co43) ∧ w'.cell? ⟨gb267, 1, none⟩ = some (.slice Ao47 t262.length co47) ∧ w'.cell? ⟨gb267, 2, none⟩ = some (.int .u64 t265) ∧ w'.cell? ⟨gb241, 0, none⟩ = some (.slice A1_0 l1_0.length c1_0) ∧ w'.cell? ⟨gb241, 1, none⟩ = some (.slice A1_1 l1_1.length c1_1) ∧ w'.cell? ⟨gb241, 2, none⟩ = some (.int .u64 a1_2)) (ds := []) #[false, false, false, false, false, false, false, false, false, false, false, false, false, false, false, false, false, false, false, false, false, false, false, false, false, false, false, false, false, false, false, false, false, false] (by kernel_rfl) rfl rfl ⟨(blk_cell BK258.out 0).trans rfl, (blk_cell BK258.out 1).trans rfl, (blk_cell BK258.out 2).trans rfl, (blk_cell BK267.out 0).trans rfl, (blk_cell BK267.out 1).trans rfl, (blk_cell BK267.out 2).trans rfl, (blk_cell BK241.out 0).trans rfl, (blk_cell BK241.out 1).trans rfl, (blk_cell BK241.out 2).trans rfl⟩ (fun hHeld => ?_); refine with_tabW lockkeeperlaw14_AllowAll.tab5 lockkeeperlaw14_AllowAll.bits5 (fun HT_ HW_ => ?_)
        generalize w48.drew = w49 at HO252 HO255 HO261 HO264 BK241 BK258 BK267 HB hHeld ⊢
        refine take_ (i := 0) (N := some 41) (v := ?_) (a' := ?_) #[true, false, false, false, false, false, false, false, false, false, false, false, false, false, false, false, false, false, false, false, false, false, false, false, false, false, false, false, false, false, false, false, false, false] rfl rfl (take_ofW HT_.out HW_.out (by kernel_rfl)) (fun _ _ _ h => h) (Or.inl ⟨by rfl, ?_⟩) hHeld ?_ ?_
        rotate_left
        ·rintro w' ⟨s0, s1, s2, s3, s4, s5, s6, s7, s8⟩
         go_simp
         with_reducible rfl
        rotate_left
        ·simp only [Act.put, List.setIfInBounds_toArray, List.set_cons_zero, List.set_cons_succ, i64_w, i32_w]
         rfl
        refine take_ (i := 1) (N := some 42) (v := ?_) (a' := ?_) #[true, true, false, false, false, false, false, false, false, false, false, false, false, false, false, false, false, false, false, false, false, false, false, false, false, false, false, false, false, false, false, false, false, false] rfl rfl (take_ofW HT_.out HW_.out (by kernel_rfl)) (fun _ _ _ h => h) (Or.inl ⟨by rfl, ?_⟩) hHeld ?_ ?_
        rotate_left
        ·rintro w' ⟨s0, s1, s2, s3, s4, s5, s6, s7, s8⟩
         go_simp
         with_reducible rfl
        rotate_left
        ·simp only [Act.put, List.setIfInBounds_toArray, List.set_cons_zero, List.set_cons_succ, i64_w, i32_w]
         rfl
        refine one_ (i := 2) (N := some 43) #[true, true, true, false, false, false, false, false, false, false, false, false, false, false, false, false, false, false, false, false, false, false, false, false, false, false, false, false, false, false, false, false, false, false] rfl rfl (one_of HT_.out (by kernel_rfl)) (by decide) (fun K hK => ?_)
        refine goes_ Tryd.func20 (by kernel_rfl) rfl #[.agg #[.slice Ao37 t250.length co37, .slice Ao40 t253.length co40, .int .u64 t256], .agg #[.slice Ao43 t259.length co43, .slice Ao47 t262.length co47, .int .u64 t265]] (by rfl) rfl rfl (by (try simp only [List.map_toArray, List.map_cons, List.map_nil]); first | done | rfl | (simp only [List.length_drop, List.length_take]; rfl)) ?_
        with_reducible refine (lockkeeperlaw0_Allow.calls kj4 _ _ t250 _ _ t253 t256 _ _ t259 _ _ t262 t265 true _ ?side1 ?side2 ?side3 ?side4 ?side5 ?side6 ?side7 ?side8 A25.out).mono ?_
        (case side1 => repeat (first | exact (Kd.R_reads' HO252.out).2.2 | (with_reducible refine Kd.C_alloc ?_ _) | (with_reducible refine Kd.C_drewN ?_ _) | (with_reducible refine Kd.C_drew ?_)))
        (case side2 => exact (Kd.R_reads' HO252.out).2.1)
        (case side3 => repeat (first | exact (Kd.R_reads' HO255.out).2.2 | (with_reducible refine Kd.C_alloc ?_ _) | (with_reducible refine Kd.C_drewN ?_ _) | (with_reducible refine Kd.C_drew ?_)))
        (case side4 => exact (Kd.R_reads' HO255.out).2.1)
        (case side5 => repeat (first | exact (Kd.R_reads' HO261.out).2.2 | (with_reducible refine Kd.C_alloc ?_ _) | (with_reducible refine Kd.C_drewN ?_ _) | (with_reducible refine Kd.C_drew ?_)))
        (case side6 => exact (Kd.R_reads' HO261.out).2.1)
        (case side7 => repeat (first | exact (Kd.R_reads' HO264.out).2.2 | (with_reducible refine Kd.C_alloc ?_ _) | (with_reducible refine Kd.C_drewN ?_ _) | (with_reducible refine Kd.C_drew ?_)))
        (case side8 => exact (Kd.R_reads' HO264.out).2.1)
        rintro e w50 ⟨rfl, hb⟩
        refine ⟨_, rfl, ?_⟩
        have n0_ := Aside0.mk (Kd.R_below (by (with_reducible repeat (first | apply Kd.R_alloc | apply Kd.R_drewN | apply Kd.R_drew)); exact HO252.out) hb)
        have n1_ := Aside0.mk (Kd.R_below (by (with_reducible repeat (first | apply Kd.R_alloc | apply Kd.R_drewN | apply Kd.R_drew)); exact HO255.out) hb)
        have n2_ := Aside0.mk (Kd.R_below (by (with_reducible repeat (first | apply Kd.R_alloc | apply Kd.R_drewN | apply Kd.R_drew)); exact HO261.out) hb)
        have n3_ := Aside0.mk (Kd.R_below (by (with_reducible repeat (first | apply Kd.R_alloc | apply Kd.R_drewN | apply Kd.R_drew)); exact HO264.out) hb)
        have n4_ := Aside0.mk (blk_below (g := gb241) (o := .cells #[.slice A1_0 l1_0.length c1_0, .slice A1_1 l1_1.length c1_1, .int .u64 a1_2] 42 (0, 0)) (by (with_reducible repeat (first | refine blk_drewN ?_ _ | refine blk_drew ?_ | refine blk_alloc ?_ _)); exact BK241.out) hb)
        have n5_ := Aside0.mk (blk_below (g := gb258) (o := .cells #[.slice Ao37 t250.length co37, .slice Ao40 t253.length co40, .int .u64 t256] 42 (0, 0)) (by (with_reducible repeat (first | refine blk_drewN ?_ _ | refine blk_drew ?_ | refine blk_alloc ?_ _)); exact BK258.out) hb)
        have n6_ := Aside0.mk (blk_below (g := gb267) (o := .cells #[.slice Ao43 t259.length co43, .slice Ao47 t262.length co47, .int .u64 t265] 42 (0, 0)) (by (with_reducible repeat (first | refine blk_drewN ?_ _ | refine blk_drew ?_ | refine blk_alloc ?_ _)); exact BK267.out) hb)
        have n7_ := Aside0.mk (below_step (by repeat (first | (with_reducible first | exact HB.out | apply below_alloc | apply pw_below_drewN | apply below_drew1 | refine below_set ?_ GE241.out | refine below_set ?_ GE258.out | refine below_set ?_ GE267.out) | exact HB.out)) hb)
        clear HO252
        clear HO255
        clear HO261
        clear HO264
        clear BK241
        clear BK258
        clear BK267
        clear HB
        have HO252 := n0_
        have HO255 := n1_
        have HO261 := n2_
        have HO264 := n3_
        have BK241 := n4_
        have BK258 := n5_
        have BK267 := n6_
        have HB := n7_
        clear n0_ n1_ n2_ n3_ n4_ n5_ n6_ n7_
        (try clear hb)
        (try clear hb2)
        (try clear hk)
        (try clear hi)
        refine hK.out _ _ ⟨(blk_cell BK258.out 0).trans rfl, (blk_cell BK258.out 1).trans rfl, (blk_cell BK258.out 2).trans rfl, (blk_cell BK267.out 0).trans rfl, (blk_cell BK267.out 1).trans rfl, (blk_cell BK267.out 2).trans rfl, (blk_cell BK241.out 0).trans rfl, (blk_cell BK241.out 1).trans rfl, (blk_cell BK241.out 2).trans rfl⟩ (fun hHeld => ?_)
        clear hK K
        refine norm_ (a' := ?_) ?_ ?_
        rotate_left
        ·show Act.put _ (some 43) _ = _
         simp only [Act.put, List.setIfInBounds_toArray, List.set_cons_zero, List.set_cons_succ, i64_w, i32_w]
         rfl
        refine pure_ (i := 3) (N := some 44) (v := ?_) (a' := ?_) #[true, true, true, true, false, false, false, false, false, false, false, false, false, false, false, false, false, false, false, false, false, false, false, false, false, false, false, false, false, false, false, false, false, false] rfl rfl (any_of HT_.out (by kernel_rfl)) (fun _ _ _ h => h) (Or.inl ⟨by rfl, ?_⟩) ?_ ?_
        rotate_left
        ·intro w'
         go_simp
         with_reducible rfl
        rotate_left
        ·simp only [Act.put, List.setIfInBounds_toArray, List.set_cons_zero, List.set_cons_succ, i64_w, i32_w]
         rfl
        refine pure_ (i := 4) (N := some 45) (v := ?_) (a' := ?_) #[true, true, true, true, true, false, false, false, false, false, false, false, false, false, false, false, false, false, false, false, false, false, false, false, false, false, false, false, false, false, false, false, false, false] rfl rfl (any_of HT_.out (by kernel_rfl)) (fun _ _ _ h => h) (Or.inl ⟨by rfl, ?_⟩) ?_ ?_
        rotate_left
        ·intro w'
         go_simp
         with_reducible rfl
        rotate_left
        ·simp only [Act.put, List.setIfInBounds_toArray, List.set_cons_zero, List.set_cons_succ, i64_w, i32_w]
         rfl
        refine pure_ (i := 5) (N := some 46) (v := ?_) (a' := ?_) #[true, true, true, true, true, true, false, false, false, false, false, false, false, false, false, false, false, false, false, false, false, false, false, false, false, false, false, false, false, false, false, false, false, false] rfl rfl (any_of HT_.out (by kernel_rfl)) (fun _ _ _ h => h) (Or.inl ⟨by rfl, ?_⟩) ?_ ?_
        rotate_left
        ·intro w'
         go_simp
         with_reducible rfl
        rotate_left
        ·simp only [Act.put, List.setIfInBounds_toArray, List.set_cons_zero, List.set_cons_succ, i64_w, i32_w]
         rfl
        refine pure_ (i := 6) (N := some 47) (v := ?_) (a' := ?_) #[true, true, true, true, true, true, true, false, false, false, false, false, false, false, false, false, false, false, false, false, false, false, false, false, false, false, false, false, false, false, false, false, false, false] rfl rfl (any_of HT_.out (by kernel_rfl)) (fun _ _ _ h => h) (Or.inl ⟨by rfl, ?_⟩) ?_ ?_
        rotate_left
        ·intro w'
         go_simp
         with_reducible rfl
        rotate_left
        ·simp only [Act.put, List.setIfInBounds_toArray, List.set_cons_zero, List.set_cons_succ, i64_w, i32_w]
         rfl
        refine pure_ (i := 7) (N := some 48) (v := ?_) (a' := ?_) #[true, true, true, true, true, true, true, true, false, false, false, false, false, false, false, false, false, false, false, false, false, false, false, false, false, false, false, false, false, false, false, false, false, false] rfl rfl (any_of HT_.out (by kernel_rfl)) (fun _ _ _ h => h) (Or.inl ⟨by rfl, ?_⟩) ?_ ?_
        rotate_left
        ·intro w'
         go_simp
         with_reducible rfl
        rotate_left
        ·simp only [Act.put, List.setIfInBounds_toArray, List.set_cons_zero, List.set_cons_succ, i64_w, i32_w]
         rfl
        refine pure_ (i := 8) (N := some 49) (v := ?_) (a' := ?_) #[true, true, true, true, true, true, true, true, true, false, false, false, false, false, false, false, false, false, false, false, false, false, false, false, false, false, false, false, false, false, false, false, false, false] rfl rfl (any_of HT_.out (by kernel_rfl)) (fun _ _ _ h => h) (Or.inl ⟨by rfl, ?_⟩) ?_ ?_
        rotate_left
        ·intro w'
         go_simp
         with_reducible rfl
        rotate_left
        ·simp only [Act.put, List.setIfInBounds_toArray, List.set_cons_zero, List.set_cons_succ, i64_w, i32_w]
         rfl
        refine pure_ (i := 10) (N := some 51) (v := ?_) (a' := ?_) #[true, true, true, true, true, true, true, true, true, false, true, false, false, false, false, false, false, false, false, false, false, false, false, false, false, false, false, false, false, false, false, false, false, false] rfl rfl (any_of HT_.out (by kernel_rfl)) (fun _ _ _ h => h) (Or.inl ⟨by rfl, ?_⟩) ?_ ?_
        rotate_left
        ·intro w'
         go_simp
         with_reducible rfl
        rotate_left
        ·simp only [Act.put, List.setIfInBounds_toArray, List.set_cons_zero, List.set_cons_succ, i64_w, i32_w]
         rfl
        refine pure_ (i := 11) (N := some 52) (v := ?_) (a' := ?_) #[true, true, true, true, true, true, true, true, true, false, true, true, false, false, false, false, false, false, false, false, false, false, false, false, false, false, false, false, false, false, false, false, false, false] rfl rfl (any_of HT_.out (by kernel_rfl)) (fun _ _ _ h => h) (Or.inl ⟨by rfl, ?_⟩) ?_ ?_
        rotate_left
        ·intro w'
         go_simp
         with_reducible rfl
        rotate_left
        ·simp only [Act.put, List.setIfInBounds_toArray, List.set_cons_zero, List.set_cons_succ, i64_w, i32_w]
         rfl
        refine pure_ (i := 14) (N := some 55) (v := ?_) (a' := ?_) #[true, true, true, true, true, true, true, true, true, false, true, true, false, false, true, false, false, false, false, false, false, false, false, false, false, false, false, false, false, false, false, false, false, false] rfl rfl (any_of HT_.out (by kernel_rfl)) (fun _ _ _ h => h) (Or.inl ⟨by rfl, ?_⟩) ?_ ?_
        rotate_left
        ·intro w'
         go_simp
         with_reducible rfl
        rotate_left
        ·simp only [Act.put, List.setIfInBounds_toArray, List.set_cons_zero, List.set_cons_succ, i64_w, i32_w]
         rfl
        refine pure_ (i := 15) (N := some 56) (v := ?_) (a' := ?_) #[true, true, true, true, true, true, true, true, true, false, true, true, false, false, true, true, false, false, false, false, false, false, false, false, false, false, false, false, false, false, false, false, false, false] rfl rfl (any_of HT_.out (by kernel_rfl)) (fun _ _ _ h => h) (Or.inl ⟨by rfl, ?_⟩) ?_ ?_
        rotate_left
        ·intro w'
         go_simp
         with_reducible rfl
        rotate_left
        ·simp only [Act.put, List.setIfInBounds_toArray, List.set_cons_zero, List.set_cons_succ, i64_w, i32_w]
         rfl
        refine take_ (i := 9) (N := some 50) (v := ?_) (a' := ?_) #[true, true, true, true, true, true, true, true, true, true, true, true, false, false, true, true, false, false, false, false, false, false, false, false, false, false, false, false, false, false, false, false, false, false] rfl rfl (take_ofW HT_.out HW_.out (by kernel_rfl)) (fun _ _ _ h => h) (Or.inl ⟨by rfl, ?_⟩) hHeld ?_ ?_
        rotate_left
        ·rintro w' ⟨s0, s1, s2, s3, s4, s5, s6, s7, s8⟩
         go_simp
         with_reducible rfl
        rotate_left
        ·simp only [Act.put, List.setIfInBounds_toArray, List.set_cons_zero, List.set_cons_succ, i64_w, i32_w]
         rfl
        refine take_ (i := 13) (N := some 54) (v := ?_) (a' := ?_) #[true, true, true, true, true, true, true, true, true, true, true, true, false, true, true, true, false, false, false, false, false, false, false, false, false, false, false, false, false, false, false, false, false, false] rfl rfl (take_ofW HT_.out HW_.out (by kernel_rfl)) (fun _ _ _ h => h) (Or.inl ⟨by rfl, ?_⟩) hHeld ?_ ?_
        rotate_left
        ·rintro w' ⟨s0, s1, s2, s3, s4, s5, s6, s7, s8⟩
         go_simp
         with_reducible rfl
        rotate_left
        ·simp only [Act.put, List.setIfInBounds_toArray, List.set_cons_zero, List.set_cons_succ, i64_w, i32_w]
         rfl
        refine one_ (i := 12) (N := some 53) #[true, true, true, true, true, true, true, true, true, true, true, true, true, true, true, true, false, false, false, false, false, false, false, false, false, false, false, false, false, false, false, false, false, false] rfl rfl (one_of HT_.out (by kernel_rfl)) (by decide) (fun K hK => ?_)
        refine goes_ Tryd.func21 (by kernel_rfl) rfl #[.agg #[.slice A1_0 l1_0.length c1_0, .slice A1_1 l1_1.length c1_1, .int .u64 a1_2], .string a2, .bool a3] (by rfl) rfl rfl (by (try simp only [List.map_toArray, List.map_cons, List.map_nil]); first | done | rfl | (simp only [List.length_drop, List.length_take]; rfl)) ?_
        with_reducible refine (allow_Has.calls kj4 _ _ l1_0 _ _ l1_1 a1_2 a2 a3 t269 _ ?side1 ?side2 ?side3 ?side4 A28.out).mono ?_
        (case side1 => repeat (first | exact (Kd.C_below HR1_0.out HB.out) | (with_reducible refine Kd.C_alloc ?_ _) | (with_reducible refine Kd.C_drewN ?_ _) | (with_reducible refine Kd.C_drew ?_)))
        (case side2 => exact HC1_0.out)
        (case side3 => repeat (first | exact (Kd.C_below HR1_1.out HB.out) | (with_reducible refine Kd.C_alloc ?_ _) | (with_reducible refine Kd.C_drewN ?_ _) | (with_reducible refine Kd.C_drew ?_)))
        (case side4 => exact HC1_1.out)
        rintro e w51 ⟨rfl, hb⟩
        refine ⟨_, rfl, ?_⟩
        have n0_ := Aside0.mk (Kd.R_below (by (with_reducible repeat (first | apply Kd.R_alloc | apply Kd.R_drewN | apply Kd.R_drew)); exact HO252.out) hb)
        have n1_ := Aside0.mk (Kd.R_below (by (with_reducible repeat (first | apply Kd.R_alloc | apply Kd.R_drewN | apply Kd.R_drew)); exact HO255.out) hb)
        have n2_ := Aside0.mk (Kd.R_below (by (with_reducible repeat (first | apply Kd.R_alloc | apply Kd.R_drewN | apply Kd.R_drew)); exact HO261.out) hb)
        have n3_ := Aside0.mk (Kd.R_below (by (with_reducible repeat (first | apply Kd.R_alloc | apply Kd.R_drewN | apply Kd.R_drew)); exact HO264.out) hb)
        have n4_ := Aside0.mk (blk_below (g := gb241) (o := .cells #[.slice A1_0 l1_0.length c1_0, .slice A1_1 l1_1.length c1_1, .int .u64 a1_2] 42 (0, 0)) (by (with_reducible repeat (first | refine blk_drewN ?_ _ | refine blk_drew ?_ | refine blk_alloc ?_ _)); exact BK241.out) hb)
        have n5_ := Aside0.mk (blk_below (g := gb258) (o := .cells #[.slice Ao37 t250.length co37, .slice Ao40 t253.length co40, .int .u64 t256] 42 (0, 0)) (by (with_reducible repeat (first | refine blk_drewN ?_ _ | refine blk_drew ?_ | refine blk_alloc ?_ _)); exact BK258.out) hb)
        have n6_ := Aside0.mk (blk_below (g := gb267) (o := .cells #[.slice Ao43 t259.length co43, .slice Ao47 t262.length co47, .int .u64 t265] 42 (0, 0)) (by (with_reducible repeat (first | refine blk_drewN ?_ _ | refine blk_drew ?_ | refine blk_alloc ?_ _)); exact BK267.out) hb)
        have n7_ := Aside0.mk (below_step (by repeat (first | (with_reducible first | exact HB.out | apply below_alloc | apply pw_below_drewN | apply below_drew1 | refine below_set ?_ GE241.out | refine below_set ?_ GE258.out | refine below_set ?_ GE267.out) | exact HB.out)) hb)
        clear HO252
        clear HO255
        clear HO261
        clear HO264
        clear BK241
        clear BK258
        clear BK267
        clear HB
        have HO252 := n0_
        have HO255 := n1_
        have HO261 := n2_
        have HO264 := n3_
        have BK241 := n4_
        have BK258 := n5_
        have BK267 := n6_
        have HB := n7_
        clear n0_ n1_ n2_ n3_ n4_ n5_ n6_ n7_
        (try clear hb)
        (try clear hb2)
        (try clear hk)
        (try clear hi)
        refine hK.out _ _ ⟨(blk_cell BK258.out 0).trans rfl, (blk_cell BK258.out 1).trans rfl, (blk_cell BK258.out 2).trans rfl, (blk_cell BK267.out 0).trans rfl, (blk_cell BK267.out 1).trans rfl, (blk_cell BK267.out 2).trans rfl, (blk_cell BK241.out 0).trans rfl, (blk_cell BK241.out 1).trans rfl, (blk_cell BK241.out 2).trans rfl⟩ (fun hHeld => ?_)
        clear hK K
        refine norm_ (a' := ?_) ?_ ?_
        rotate_left
        ·show Act.put _ (some 53) _ = _
         simp only [Act.put, List.setIfInBounds_toArray, List.set_cons_zero, List.set_cons_succ, i64_w, i32_w]
         rfl
        refine one_ (i := 16) (N := some 57) #[true, true, true, true, true, true, true, true, true, true, true, true, true, true, true, true, true, false, false, false, false, false, false, false, false, false, false, false, false, false, false, false, false, false] rfl rfl (one_of HT_.out (by kernel_rfl)) (by decide) (fun K hK => ?_)
        refine goes_ Tryd.func22 (by kernel_rfl) rfl #[.agg #[.slice A1_0 l1_0.length c1_0, .slice A1_1 l1_1.length c1_1, .int .u64 a1_2], .string a2, .bool a3] (by rfl) rfl rfl (by (try simp only [List.map_toArray, List.map_cons, List.map_nil]); first | done | rfl | (simp only [List.length_drop, List.length_take]; rfl)) ?_
        with_reducible refine (lockkeeperref14_Has.calls kj4 _ _ l1_0 _ _ l1_1 a1_2 a2 a3 t270 _ ?side1 ?side2 ?side3 ?side4 A29.out).mono ?_
        (case side1 => repeat (first | exact (Kd.C_below HR1_0.out HB.out) | (with_reducible refine Kd.C_alloc ?_ _) | (with_reducible refine Kd.C_drewN ?_ _) | (with_reducible refine Kd.C_drew ?_)))
        (case side2 => exact HC1_0.out)
        (case side3 => repeat (first | exact (Kd.C_below HR1_1.out HB.out) | (with_reducible refine Kd.C_alloc ?_ _) | (with_reducible refine Kd.C_drewN ?_ _) | (with_reducible refine Kd.C_drew ?_)))
        (case side4 => exact HC1_1.out)
        rintro e w52 ⟨rfl, hb⟩
        refine ⟨_, rfl, ?_⟩
        have n0_ := Aside0.mk (Kd.R_below (by (with_reducible repeat (first | apply Kd.R_alloc | apply Kd.R_drewN | apply Kd.R_drew)); exact HO252.out) hb)
        have n1_ := Aside0.mk (Kd.R_below (by (with_reducible repeat (first | apply Kd.R_alloc | apply Kd.R_drewN | apply Kd.R_drew)); exact HO255.out) hb)
        have n2_ := Aside0.mk (Kd.R_below (by (with_reducible repeat (first | apply Kd.R_alloc | apply Kd.R_drewN | apply Kd.R_drew)); exact HO261.out) hb)
        have n3_ := Aside0.mk (Kd.R_below (by (with_reducible repeat (first | apply Kd.R_alloc | apply Kd.R_drewN | apply Kd.R_drew)); exact HO264.out) hb)
        have n4_ := Aside0.mk (blk_below (g := gb241) (o := .cells #[.slice A1_0 l1_0.length c1_0, .slice A1_1 l1_1.length c1_1, .int .u64 a1_2] 42 (0, 0)) (by (with_reducible repeat (first | refine blk_drewN ?_ _ | refine blk_drew ?_ | refine blk_alloc ?_ _)); exact BK241.out) hb)
        have n5_ := Aside0.mk (blk_below (g := gb258) (o := .cells #[.slice Ao37 t250.length co37, .slice Ao40 t253.length co40, .int .u64 t256] 42 (0, 0)) (by (with_reducible repeat (first | refine blk_drewN ?_ _ | refine blk_drew ?_ | refine blk_alloc ?_ _)); exact BK258.out) hb)
        have n6_ := Aside0.mk (blk_below (g := gb267) (o := .cells #[.slice Ao43 t259.length co43, .slice Ao47 t262.length co47, .int .u64 t265] 42 (0, 0)) (by (with_reducible repeat (first | refine blk_drewN ?_ _ | refine blk_drew ?_ | refine blk_alloc ?_ _)); exact BK267.out) hb)
        have n7_ := Aside0.mk (below_step (by repeat (first | (with_reducible first | exact HB.out | apply below_alloc | apply pw_below_drewN | apply below_drew1 | refine below_set ?_ GE241.out | refine below_set ?_ GE258.out | refine below_set ?_ GE267.out) | exact HB.out)) hb)
        clear HO252
        clear HO255
        clear HO261
        clear HO264
        clear BK241
        clear BK258
        clear BK267
        clear HB
        have HO252 := n0_
        have HO255 := n1_
        have HO261 := n2_
        have HO264 := n3_
        have BK241 := n4_
        have BK258 := n5_
        have BK267 := n6_
        have HB := n7_
        clear n0_ n1_ n2_ n3_ n4_ n5_ n6_ n7_
        (try clear hb)
        (try clear hb2)
        (try clear hk)
        (try clear hi)
        refine hK.out _ _ ⟨(blk_cell BK258.out 0).trans rfl, (blk_cell BK258.out 1).trans rfl, (blk_cell BK258.out 2).trans rfl, (blk_cell BK267.out 0).trans rfl, (blk_cell BK267.out 1).trans rfl, (blk_cell BK267.out 2).trans rfl, (blk_cell BK241.out 0).trans rfl, (blk_cell BK241.out 1).trans rfl, (blk_cell BK241.out 2).trans rfl⟩ (fun hHeld => ?_)
        clear hK K
        refine norm_ (a' := ?_) ?_ ?_
        rotate_left
        ·show Act.put _ (some 57) _ = _
         simp only [Act.put, List.setIfInBounds_toArray, List.set_cons_zero, List.set_cons_succ, i64_w, i32_w]
         rfl
        refine pure_ (i := 17) (N := some 58) (v := ?_) (a' := ?_) #[true, true, true, true, true, true, true, true, true, true, true, true, true, true, true, true, true, true, false, false, false, false, false, false, false, false, false, false, false, false, false, false, false, false] rfl rfl (any_of HT_.out (by kernel_rfl)) (fun _ _ _ h => h) (Or.inl ⟨by rfl, ?_⟩) ?_ ?_
        rotate_left
        ·intro w'
         go_simp
         with_reducible rfl
        rotate_left
        ·simp only [Act.put, List.setIfInBounds_toArray, List.set_cons_zero, List.set_cons_succ, i64_w, i32_w]
         rfl
        refine pure_ (i := 18) (N := some 59) (v := ?_) (a' := ?_) #[true, true, true, true, true, true, true, true, true, true, true, true, true, true, true, true, true, true, true, false, false, false, false, false, false, false, false, false, false, false, false, false, false, false] rfl rfl (any_of HT_.out (by kernel_rfl)) (fun _ _ _ h => h) (Or.inl ⟨by rfl, ?_⟩) ?_ ?_
        rotate_left
        ·intro w'
         go_simp
         with_reducible rfl
        rotate_left
        ·simp only [Act.put, List.setIfInBounds_toArray, List.set_cons_zero, List.set_cons_succ, i64_w, i32_w]
         rfl
        refine pure_ (i := 19) (N := some 60) (v := ?_) (a' := ?_) #[true, true, true, true, true, true, true, true, true, true, true, true, true, true, true, true, true, true, true, true, false, false, false, false, false, false, false, false, false, false, false, false, false, false] rfl rfl (any_of HT_.out (by kernel_rfl)) (fun _ _ _ h => h) (Or.inl ⟨by rfl, ?_⟩) ?_ ?_
        rotate_left
        ·intro w'
         go_simp
         with_reducible rfl
        rotate_left
        ·simp only [Act.put, List.setIfInBounds_toArray, List.set_cons_zero, List.set_cons_succ, i64_w, i32_w]
         rfl
        refine pure_ (i := 21) (N := some 62) (v := ?_) (a' := ?_) #[true, true, true, true, true, true, true, true, true, true, true, true, true, true, true, true, true, true, true, true, false, true, false, false, false, false, false, false, false, false, false, false, false, false] rfl rfl (any_of HT_.out (by kernel_rfl)) (fun _ _ _ h => h) (Or.inl ⟨by rfl, ?_⟩) ?_ ?_
        rotate_left
        ·intro w'
         go_simp
         with_reducible rfl
        rotate_left
        ·simp only [Act.put, List.setIfInBounds_toArray, List.set_cons_zero, List.set_cons_succ, i64_w, i32_w]
         rfl
        refine pure_ (i := 22) (N := some 63) (v := ?_) (a' := ?_) #[true, true, true, true, true, true, true, true, true, true, true, true, true, true, true, true, true, true, true, true, false, true, true, false, false, false, false, false, false, false, false, false, false, false] rfl rfl (any_of HT_.out (by kernel_rfl)) (fun _ _ _ h => h) (Or.inl ⟨by rfl, ?_⟩) ?_ ?_
        rotate_left
        ·intro w'
         go_simp
         with_reducible rfl
        rotate_left
        ·simp only [Act.put, List.setIfInBounds_toArray, List.set_cons_zero, List.set_cons_succ, i64_w, i32_w]
         rfl
        refine pure_ (i := 25) (N := some 66) (v := ?_) (a' := ?_) #[true, true, true, true, true, true, true, true, true, true, true, true, true, true, true, true, true, true, true, true, false, true, true, false, false, true, false, false, false, false, false, false, false, false] rfl rfl (any_of HT_.out (by kernel_rfl)) (fun _ _ _ h => h) (Or.inl ⟨by rfl, ?_⟩) ?_ ?_
        rotate_left
        ·intro w'
         go_simp
         with_reducible rfl
        rotate_left
        ·simp only [Act.put, List.setIfInBounds_toArray, List.set_cons_zero, List.set_cons_succ, i64_w, i32_w]
         rfl
        refine pure_ (i := 26) (N := some 67) (v := ?_) (a' := ?_) #[true, true, true, true, true, true, true, true, true, true, true, true, true, true, true, true, true, true, true, true, false, true, true, false, false, true, true, false, false, false, false, false, false, false] rfl rfl (any_of HT_.out (by kernel_rfl)) (fun _ _ _ h => h) (Or.inl ⟨by rfl, ?_⟩) ?_ ?_
        rotate_left
        ·intro w'
         go_simp
         with_reducible rfl
        rotate_left
        ·simp only [Act.put, List.setIfInBounds_toArray, List.set_cons_zero, List.set_cons_succ, i64_w, i32_w]
         rfl
        refine take_ (i := 20) (N := some 61) (v := ?_) (a' := ?_) #[true, true, true, true, true, true, true, true, true, true, true, true, true, true, true, true, true, true, true, true, true, true, true, false, false, true, true, false, false, false, false, false, false, false] rfl rfl (take_ofW HT_.out HW_.out (by kernel_rfl)) (fun _ _ _ h => h) (Or.inl ⟨by rfl, ?_⟩) hHeld ?_ ?_
        rotate_left
        ·rintro w' ⟨s0, s1, s2, s3, s4, s5, s6, s7, s8⟩
         go_simp
         with_reducible rfl
        rotate_left
        ·simp only [Act.put, List.setIfInBounds_toArray, List.set_cons_zero, List.set_cons_succ, i64_w, i32_w]
         rfl
        refine take_ (i := 24) (N := some 65) (v := ?_) (a' := ?_) #[true, true, true, true, true, true, true, true, true, true, true, true, true, true, true, true, true, true, true, true, true, true, true, false, true, true, true, false, false, false, false, false, false, false] rfl rfl (take_ofW HT_.out HW_.out (by kernel_rfl)) (fun _ _ _ h => h) (Or.inl ⟨by rfl, ?_⟩) hHeld ?_ ?_
        rotate_left
        ·rintro w' ⟨s0, s1, s2, s3, s4, s5, s6, s7, s8⟩
         go_simp
         with_reducible rfl
        rotate_left
        ·simp only [Act.put, List.setIfInBounds_toArray, List.set_cons_zero, List.set_cons_succ, i64_w, i32_w]
         rfl
        refine one_ (i := 23) (N := some 64) #[true, true, true, true, true, true, true, true, true, true, true, true, true, true, true, true, true, true, true, true, true, true, true, true, true, true, true, false, false, false, false, false, false, false] rfl rfl (one_of HT_.out (by kernel_rfl)) (by decide) (fun K hK => ?_)
        refine goes_ Tryd.func23 (by kernel_rfl) rfl #[.agg #[.slice A1_0 l1_0.length c1_0, .slice A1_1 l1_1.length c1_1, .int .u64 a1_2], .string a2, .bool a3] (by rfl) rfl rfl (by (try simp only [List.map_toArray, List.map_cons, List.map_nil]); first | done | rfl | (simp only [List.length_drop, List.length_take]; rfl)) ?_
        with_reducible refine (allow_Covers.calls _ _ l1_0 _ _ l1_1 a1_2 a2 a3 t271 _ ?side1 ?side2 ?side3 ?side4 A31.out).mono ?_
        (case side1 => repeat (first | exact (Kd.C_below HR1_0.out HB.out) | (with_reducible refine Kd.C_alloc ?_ _) | (with_reducible refine Kd.C_drewN ?_ _) | (with_reducible refine Kd.C_drew ?_)))
        (case side2 => exact HC1_0.out)
        (case side3 => repeat (first | exact (Kd.C_below HR1_1.out HB.out) | (with_reducible refine Kd.C_alloc ?_ _) | (with_reducible refine Kd.C_drewN ?_ _) | (with_reducible refine Kd.C_drew ?_)))
        (case side4 => exact HC1_1.out)
        rintro e w53 ⟨rfl, hb⟩
        refine ⟨_, rfl, ?_⟩
        have n0_ := Aside0.mk (Kd.R_below (by (with_reducible repeat (first | apply Kd.R_alloc | apply Kd.R_drewN | apply Kd.R_drew)); exact HO252.out) hb)
        have n1_ := Aside0.mk (Kd.R_below (by (with_reducible repeat (first | apply Kd.R_alloc | apply Kd.R_drewN | apply Kd.R_drew)); exact HO255.out) hb)
        have n2_ := Aside0.mk (Kd.R_below (by (with_reducible repeat (first | apply Kd.R_alloc | apply Kd.R_drewN | apply Kd.R_drew)); exact HO261.out) hb)
        have n3_ := Aside0.mk (Kd.R_below (by (with_reducible repeat (first | apply Kd.R_alloc | apply Kd.R_drewN | apply Kd.R_drew)); exact HO264.out) hb)
        have n4_ := Aside0.mk (blk_below (g := gb241) (o := .cells #[.slice A1_0 l1_0.length c1_0, .slice A1_1 l1_1.length c1_1, .int .u64 a1_2] 42 (0, 0)) (by (with_reducible repeat (first | refine blk_drewN ?_ _ | refine blk_drew ?_ | refine blk_alloc ?_ _)); exact BK241.out) hb)
        have n5_ := Aside0.mk (blk_below (g := gb258) (o := .cells #[.slice Ao37 t250.length co37, .slice Ao40 t253.length co40, .int .u64 t256] 42 (0, 0)) (by (with_reducible repeat (first | refine blk_drewN ?_ _ | refine blk_drew ?_ | refine blk_alloc ?_ _)); exact BK258.out) hb)
        have n6_ := Aside0.mk (blk_below (g := gb267) (o := .cells #[.slice Ao43 t259.length co43, .slice Ao47 t262.length co47, .int .u64 t265] 42 (0, 0)) (by (with_reducible repeat (first | refine blk_drewN ?_ _ | refine blk_drew ?_ | refine blk_alloc ?_ _)); exact BK267.out) hb)
        have n7_ := Aside0.mk (below_step (by repeat (first | (with_reducible first | exact HB.out | apply below_alloc | apply pw_below_drewN | apply below_drew1 | refine below_set ?_ GE241.out | refine below_set ?_ GE258.out | refine below_set ?_ GE267.out) | exact HB.out)) hb)
        clear HO252
        clear HO255
        clear HO261
        clear HO264
        clear BK241
        clear BK258
        clear BK267
        clear HB
        have HO252 := n0_
        have HO255 := n1_
        have HO261 := n2_
        have HO264 := n3_
        have BK241 := n4_
        have BK258 := n5_
        have BK267 := n6_
        have HB := n7_
        clear n0_ n1_ n2_ n3_ n4_ n5_ n6_ n7_
        (try clear hb)
        (try clear hb2)
        (try clear hk)
        (try clear hi)
        refine hK.out _ _ ⟨(blk_cell BK258.out 0).trans rfl, (blk_cell BK258.out 1).trans rfl, (blk_cell BK258.out 2).trans rfl, (blk_cell BK267.out 0).trans rfl, (blk_cell BK267.out 1).trans rfl, (blk_cell BK267.out 2).trans rfl, (blk_cell BK241.out 0).trans rfl, (blk_cell BK241.out 1).trans rfl, (blk_cell BK241.out 2).trans rfl⟩ (fun hHeld => ?_)
        clear hK K
        refine norm_ (a' := ?_) ?_ ?_
        rotate_left
        ·show Act.put _ (some 64) _ = _
         simp only [Act.put, List.setIfInBounds_toArray, List.set_cons_zero, List.set_cons_succ, i64_w, i32_w]
         rfl
        refine one_ (i := 27) (N := some 68) #[true, true, true, true, true, true, true, true, true, true, true, true, true, true, true, true, true, true, true, true, true, true, true, true, true, true, true, true, false, false, false, false, false, false] rfl rfl (one_of HT_.out (by kernel_rfl)) (by decide) (fun K hK => ?_)
        refine goes_ Tryd.func24 (by kernel_rfl) rfl #[.agg #[.slice A1_0 l1_0.length c1_0, .slice A1_1 l1_1.length c1_1, .int .u64 a1_2], .string a2, .bool a3] (by rfl) rfl rfl (by (try simp only [List.map_toArray, List.map_cons, List.map_nil]); first | done | rfl | (simp only [List.length_drop, List.length_take]; rfl)) ?_
        with_reducible refine (lockkeeperref14_Covers.calls kj4 _ _ l1_0 _ _ l1_1 a1_2 a2 a3 t272 _ ?side1 ?side2 ?side3 ?side4 A32.out).mono ?_
        (case side1 => repeat (first | exact (Kd.C_below HR1_0.out HB.out) | (with_reducible refine Kd.C_alloc ?_ _) | (with_reducible refine Kd.C_drewN ?_ _) | (with_reducible refine Kd.C_drew ?_)))
        (case side2 => exact HC1_0.out)
        (case side3 => repeat (first | exact (Kd.C_below HR1_1.out HB.out) | (with_reducible refine Kd.C_alloc ?_ _) | (with_reducible refine Kd.C_drewN ?_ _) | (with_reducible refine Kd.C_drew ?_)))
        (case side4 => exact HC1_1.out)
        rintro e w54 ⟨rfl, hb⟩
        refine ⟨_, rfl, ?_⟩
        have n0_ := Aside0.mk (Kd.R_below (by (with_reducible repeat (first | apply Kd.R_alloc | apply Kd.R_drewN | apply Kd.R_drew)); exact HO252.out) hb)
        have n1_ := Aside0.mk (Kd.R_below (by (with_reducible repeat (first | apply Kd.R_alloc | apply Kd.R_drewN | apply Kd.R_drew)); exact HO255.out) hb)
        have n2_ := Aside0.mk (Kd.R_below (by (with_reducible repeat (first | apply Kd.R_alloc | apply Kd.R_drewN | apply Kd.R_drew)); exact HO261.out) hb)
        have n3_ := Aside0.mk (Kd.R_below (by (with_reducible repeat (first | apply Kd.R_alloc | apply Kd.R_drewN | apply Kd.R_drew)); exact HO264.out) hb)
        have n4_ := Aside0.mk (blk_below (g := gb241) (o := .cells #[.slice A1_0 l1_0.length c1_0, .slice A1_1 l1_1.length c1_1, .int .u64 a1_2] 42 (0, 0)) (by (with_reducible repeat (first | refine blk_drewN ?_ _ | refine blk_drew ?_ | refine blk_alloc ?_ _)); exact BK241.out) hb)
        have n5_ := Aside0.mk (blk_below (g := gb258) (o := .cells #[.slice Ao37 t250.length co37, .slice Ao40 t253.length co40, .int .u64 t256] 42 (0, 0)) (by (with_reducible repeat (first | refine blk_drewN ?_ _ | refine blk_drew ?_ | refine blk_alloc ?_ _)); exact BK258.out) hb)
        have n6_ := Aside0.mk (blk_below (g := gb267) (o := .cells #[.slice Ao43 t259.length co43, .slice Ao47 t262.length co47, .int .u64 t265] 42 (0, 0)) (by (with_reducible repeat (first | refine blk_drewN ?_ _ | refine blk_drew ?_ | refine blk_alloc ?_ _)); exact BK267.out) hb)
        have n7_ := Aside0.mk (below_step (by repeat (first | (with_reducible first | exact HB.out | apply below_alloc | apply pw_below_drewN | apply below_drew1 | refine below_set ?_ GE241.out | refine below_set ?_ GE258.out | refine below_set ?_ GE267.out) | exact HB.out)) hb)
        clear HO252
        clear HO255
        clear HO261
        clear HO264
        clear BK241
        clear BK258
        clear BK267
        clear HB
        have HO252 := n0_
        have HO255 := n1_
        have HO261 := n2_
        have HO264 := n3_
        have BK241 := n4_
        have BK258 := n5_
        have BK267 := n6_
        have HB := n7_
        clear n0_ n1_ n2_ n3_ n4_ n5_ n6_ n7_
        (try clear hb)
        (try clear hb2)
        (try clear hk)
        (try clear hi)
        refine hK.out _ _ ⟨(blk_cell BK258.out 0).trans rfl, (blk_cell BK258.out 1).trans rfl, (blk_cell BK258.out 2).trans rfl, (blk_cell BK267.out 0).trans rfl, (blk_cell BK267.out 1).trans rfl, (blk_cell BK267.out 2).trans rfl, (blk_cell BK241.out 0).trans rfl, (blk_cell BK241.out 1).trans rfl, (blk_cell BK241.out 2).trans rfl⟩ (fun hHeld => ?_)
        clear hK K
        refine norm_ (a' := ?_) ?_ ?_
        rotate_left
        ·show Act.put _ (some 68) _ = _
         simp only [Act.put, List.setIfInBounds_toArray, List.set_cons_zero, List.set_cons_succ, i64_w, i32_w]
         rfl
        refine pure_ (i := 28) (N := some 69) (v := ?_) (a' := ?_) #[true, true, true, true, true, true, true, true, true, true, true, true, true, true, true, true, true, true, true, true, true, true, true, true, true, true, true, true, true, false, false, false, false, false] rfl rfl (any_of HT_.out (by kernel_rfl)) (fun _ _ _ h => h) (Or.inl ⟨by rfl, ?_⟩) ?_ ?_
        rotate_left
        ·intro w'
         go_simp
         with_reducible rfl
        rotate_left
        ·simp only [Act.put, List.setIfInBounds_toArray, List.set_cons_zero, List.set_cons_succ, i64_w, i32_w]
         rfl
        refine pure_ (i := 29) (N := some 70) (v := ?_) (a' := ?_) #[true, true, true, true, true, true, true, true, true, true, true, true, true, true, true, true, true, true, true, true, true, true, true, true, true, true, true, true, true, true, false, false, false, false] rfl rfl (any_of HT_.out (by kernel_rfl)) (fun _ _ _ h => h) (Or.inl ⟨by rfl, ?_⟩) ?_ ?_
        rotate_left
        ·intro w'
         go_simp
         with_reducible rfl
        rotate_left
        ·simp only [Act.put, List.setIfInBounds_toArray, List.set_cons_zero, List.set_cons_succ, i64_w, i32_w]
         rfl
        refine pure_ (i := 30) (N := some 71) (v := ?_) (a' := ?_) #[true, true, true, true, true, true, true, true, true, true, true, true, true, true, true, true, true, true, true, true, true, true, true, true, true, true, true, true, true, true, true, false, false, false] rfl rfl (any_of HT_.out (by kernel_rfl)) (fun _ _ _ h => h) (Or.inl ⟨by rfl, ?_⟩) ?_ ?_
        rotate_left
        ·intro w'
         go_simp
         with_reducible rfl
        rotate_left
        ·simp only [Act.put, List.setIfInBounds_toArray, List.set_cons_zero, List.set_cons_succ, i64_w, i32_w]
         rfl
        refine one_ (i := 31) (N := some 72) #[true, true, true, true, true, true, true, true, true, true, true, true, true, true, true, true, true, true, true, true, true, true, true, true, true, true, true, true, true, true, true, true, false, false] rfl rfl (one_of HT_.out (by kernel_rfl)) (by decide) (fun K hK => ?_)
        refine goes_ Tryd.func17 (by kernel_rfl) rfl #[] (by rfl) rfl rfl (by (try simp only [List.map_toArray, List.map_cons, List.map_nil]); first | done | rfl | (simp only [List.length_drop, List.length_take]; rfl)) ?_
        with_reducible refine (lockkeeperlaw14_awake.calls kj4  t273 _ A34.out).mono ?_
        rintro e w55 ⟨rfl, hb⟩
        refine ⟨_, rfl, ?_⟩
        have n0_ := Aside0.mk (Kd.R_below (by (with_reducible repeat (first | apply Kd.R_alloc | apply Kd.R_drewN | apply Kd.R_drew)); exact HO252.out) hb)
        have n1_ := Aside0.mk (Kd.R_below (by (with_reducible repeat (first | apply Kd.R_alloc | apply Kd.R_drewN | apply Kd.R_drew)); exact HO255.out) hb)
        have n2_ := Aside0.mk (Kd.R_below (by (with_reducible repeat (first | apply Kd.R_alloc | apply Kd.R_drewN | apply Kd.R_drew)); exact HO261.out) hb)
        have n3_ := Aside0.mk (Kd.R_below (by (with_reducible repeat (first | apply Kd.R_alloc | apply Kd.R_drewN | apply Kd.R_drew)); exact HO264.out) hb)
        have n4_ := Aside0.mk (blk_below (g := gb241) (o := .cells #[.slice A1_0 l1_0.length c1_0, .slice A1_1 l1_1.length c1_1, .int .u64 a1_2] 42 (0, 0)) (by (with_reducible repeat (first | refine blk_drewN ?_ _ | refine blk_drew ?_ | refine blk_alloc ?_ _)); exact BK241.out) hb)
        have n5_ := Aside0.mk (blk_below (g := gb258) (o := .cells #[.slice Ao37 t250.length co37, .slice Ao40 t253.length co40, .int .u64 t256] 42 (0, 0)) (by (with_reducible repeat (first | refine blk_drewN ?_ _ | refine blk_drew ?_ | refine blk_alloc ?_ _)); exact BK258.out) hb)
        have n6_ := Aside0.mk (blk_below (g := gb267) (o := .cells #[.slice Ao43 t259.length co43, .slice Ao47 t262.length co47, .int .u64 t265] 42 (0, 0)) (by (with_reducible repeat (first | refine blk_drewN ?_ _ | refine blk_drew ?_ | refine blk_alloc ?_ _)); exact BK267.out) hb)
        have n7_ := Aside0.mk (below_step (by repeat (first | (with_reducible first | exact HB.out | apply below_alloc | apply pw_below_drewN | apply below_drew1 | refine below_set ?_ GE241.out | refine below_set ?_ GE258.out | refine below_set ?_ GE267.out) | exact HB.out)) hb)
        clear HO252
        clear HO255
        clear HO261
        clear HO264
        clear BK241
        clear BK258
        clear BK267
        clear HB
        have HO252 := n0_
        have HO255 := n1_
        have HO261 := n2_
        have HO264 := n3_
        have BK241 := n4_
        have BK258 := n5_
        have BK267 := n6_
        have HB := n7_
        clear n0_ n1_ n2_ n3_ n4_ n5_ n6_ n7_
        (try clear hb)
        (try clear hb2)
        (try clear hk)
        (try clear hi)
        refine hK.out _ _ ⟨(blk_cell BK258.out 0).trans rfl, (blk_cell BK258.out 1).trans rfl, (blk_cell BK258.out 2).trans rfl, (blk_cell BK267.out 0).trans rfl, (blk_cell BK267.out 1).trans rfl, (blk_cell BK267.out 2).trans rfl, (blk_cell BK241.out 0).trans rfl, (blk_cell BK241.out 1).trans rfl, (blk_cell BK241.out 2).trans rfl⟩ (fun hHeld => ?_)
        clear hK K
        refine norm_ (a' := ?_) ?_ ?_
        rotate_left
        ·show Act.put _ (some 72) _ = _
         simp only [Act.put, List.setIfInBounds_toArray, List.set_cons_zero, List.set_cons_succ, i64_w, i32_w]
         rfl
        refine pure_ (i := 32) (N := some 73) (v := ?_) (a' := ?_) #[true, true, true, true, true, true, true, true, true, true, true, true, true, true, true, true, true, true, true, true, true, true, true, true, true, true, true, true, true, true, true, true, true, false] rfl rfl (any_of HT_.out (by kernel_rfl)) (fun _ _ _ h => h) (Or.inl ⟨by rfl, ?_⟩) ?_ ?_
        rotate_left
        ·intro w'
         go_simp
         with_reducible rfl
        rotate_left
        ·simp only [Act.put, List.setIfInBounds_toArray, List.set_cons_zero, List.set_cons_succ, i64_w, i32_w]
         rfl
        refine pure_ (i := 33) (N := some 8) (v := ?_) (a' := ?_) #[true, true, true, true, true, true, true, true, true, true, true, true, true, true, true, true, true, true, true, true, true, true, true, true, true, true, true, true, true, true, true, true, true, true] rfl rfl (any_of HT_.out (by kernel_rfl)) (fun _ _ _ h => h) (Or.inl ⟨by rfl, ?_⟩) ?_ ?_
        rotate_left
        ·intro w'
         go_simp
         with_reducible rfl
        rotate_left
        ·simp only [Act.put, List.setIfInBounds_toArray, List.set_cons_zero, List.set_cons_succ, i64_w, i32_w]
         rfl
        refine done_ (done_of HT_.out (by kernel_rfl)) ?_
        try go_wp2
        go_ret
        exact ⟨by first | rfl | (simp [errW_none, errW_some] <;> rfl) | (simp [*, errW_none, errW_some] <;> rfl), by repeat (first | (with_reducible first | exact HB.out | apply below_alloc | apply pw_below_drewN | apply below_drew1 | refine below_set ?_ GE241.out | refine below_set ?_ GE258.out | refine below_set ?_ GE267.out) | exact HB.out)⟩
       ·rw [if_neg c33] at H
        have c33b0 : (t271 == t272) = false := by simpa using c33
        (try (have c33b1 : decide (t271 = t272) = false := by simpa using c33))
        (try (have c33b2 : (t271 == t272) = false := by simpa using c33))
        (try (have c33b3 : ¬ (t271 = t272) := by simpa using c33))
        clear c33
        exact absurd ((Option.some.inj H).trans hr_) (by decide)
      ·rw [if_neg c30] at H
       have c30b0 : (t269 == t270) = false := by simpa using c30
       (try (have c30b1 : decide (t269 = t270) = false := by simpa using c30))
       (try (have c30b2 : (t269 == t270) = false := by simpa using c30))
       (try (have c30b3 : ¬ (t269 = t270) := by simpa using c30))
       clear c30
       exact absurd ((Option.some.inj H).trans hr_) (by decide)
     ·rw [if_neg c27] at H
      have c27b0 : (t257 == t266) = false := beq_eq_false_iff_ne.mpr c27
      have c27b1 : (t257 != t266) = true := bne_iff_ne.mpr c27
      exact absurd ((Option.some.inj H).trans hr_) (by decide)
    ·replace c26 := Bool.eq_false_iff.mpr c26
     subst c26
     have H1 : (some false) = some r := by rw [if_neg (show ¬ (false = true) by decide)] at H; exact H
     clear H
     have H := H1
     clear H1
     exact absurd ((Option.some.inj H).trans hr_) (by decide)
end Go.Proofs.YtnbkfneolgeeeaaDoor.Pr
