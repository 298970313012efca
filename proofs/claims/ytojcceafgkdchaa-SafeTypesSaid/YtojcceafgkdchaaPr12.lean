-- Made by a program of this session (wip/xp/xp.py), over the print's words.
import Derived.Test.YtojcceafgkdchaaPr0
import Derived.Test.YtojcceafgkdchaaPr2
import Derived.Test.YtojcceafgkdchaaPr10
import Derived.Test.YtojcceafgkdchaaPr11
import Derived.Test.YtojcceafgkdchaaG1
namespace Go.Proofs.Ytojcceafgkdchaa.Pr
open Go.RowKit Go.Proofs.YtojcceafgkdchaaW.PrintWords Go.Proofs.YtojcceafgkdchaaW.PrintLast Go.Proofs.YtojcceafgkdchaaW.PrintMore
attribute [local go_sem] max2_int min2_int max_two min_two max_three min_three max_four min_four   -- for this text's walks alone
set_option linter.unusedVariables false
set_option linter.unusedSimpArgs false

/-! ### safe_Header: function 31 -/
def safe_Header.j0 : Nat → ByteArray → ByteArray → Bool → Option (Bool)
  | 0, _, _, _ => none
  | k + 1, x3, x12, x17 => if x17 = true then ((safe_all.f x3 60).bind fun t313 => (some t313)) else (if x12.toList = ([99, 111, 110, 116, 101, 110, 116, 45, 116, 121, 112, 101] : List UInt8) then ((safe_all.f x3 33).bind fun t314 => (if t314 = true then ((safe_isForm.f k x3).bind fun t315 => (some t315)) else (some false))) else (if x12.toList = ([114, 97, 110, 103, 101] : List UInt8) then ((safe_Range.f k x3).bind fun t316 => (some t316)) else (some false)))
def safe_Header.f (k : Nat) (a0_0 : ByteArray) (a0_1 : ByteArray) : Option (Bool) := (octet_Trim.f k a0_1).bind fun t310 => (if (t310.size : Int) > 128 then (some false) else ((octet_Lower.f a0_0).bind fun t311 => (if t311.toList = ([97, 99, 99, 101, 112, 116] : List UInt8) then ((safe_all.f t310 33).bind fun t312 => (some t312)) else (if t311.toList = ([97, 99, 99, 101, 112, 116, 45, 108, 97, 110, 103, 117, 97, 103, 101] : List UInt8) then (safe_Header.j0 k t310 t311 (t311.toList == ([97, 99, 99, 101, 112, 116, 45, 108, 97, 110, 103, 117, 97, 103, 101] : List UInt8))) else (safe_Header.j0 k t310 t311 (t311.toList == ([99, 111, 110, 116, 101, 110, 116, 45, 108, 97, 110, 103, 117, 97, 103, 101] : List UInt8)))))))
theorem safe_Header.mono_l : ∀ k, (∀ y0 y1 y2, LeO (safe_Header.j0 k y0 y1 y2) (safe_Header.j0 (k + 1) y0 y1 y2))
  | 0 => fun _ _ _ r h => by simp [safe_Header.j0] at h
  | k + 1 => by
    have ih0 := safe_Header.mono_l k
    · intro y0 y1 y2
      unfold safe_Header.j0
      repeat' first
      | (with_reducible exact ih0 _ _ _)
      | (with_reducible exact octet_Trim.mono _ _)
      | (with_reducible exact safe_Range.mono _ _)
      | (with_reducible exact safe_isForm.mono _ _)
      | (with_reducible exact LeO.refl _)
      | (with_reducible exact LeO.none _)
      | (with_reducible refine LeO.ite ?_ ?_)
      | (with_reducible refine LeO.bind ?_ (fun _ => ?_))
      | exact ih0 _ _ _
      | exact octet_Trim.mono _ _
      | exact safe_Range.mono _ _
      | exact safe_isForm.mono _ _
      | exact LeO.none _
      | refine LeO.ite ?_ ?_
      | refine LeO.bind ?_ (fun _ => ?_)
theorem safe_Header.mono : ∀ a0 a1 k, LeO (safe_Header.f k a0 a1) (safe_Header.f (k + 1) a0 a1) := by
  intro a0 a1 k
  have ih0 := safe_Header.mono_l k
  unfold safe_Header.f
  repeat' first
      | (with_reducible exact ih0 _ _ _)
      | (with_reducible exact octet_Trim.mono _ _)
      | (with_reducible exact safe_Range.mono _ _)
      | (with_reducible exact safe_isForm.mono _ _)
      | (with_reducible exact LeO.refl _)
      | (with_reducible exact LeO.none _)
      | (with_reducible refine LeO.ite ?_ ?_)
      | (with_reducible refine LeO.bind ?_ (fun _ => ?_))
      | exact ih0 _ _ _
      | exact octet_Trim.mono _ _
      | exact safe_Range.mono _ _
      | exact safe_isForm.mono _ _
      | exact LeO.none _
      | refine LeO.ite ?_ ?_
      | refine LeO.bind ?_ (fun _ => ?_)
set_option maxHeartbeats 8000000 in
set_option maxRecDepth 100000 in
theorem safe_Header.calls (k : Nat) (a0_0 : ByteArray) (a0_1 : ByteArray) (r : Bool) (w : World) (h : safe_Header.f k a0_0 a0_1 = some r) :
    Calls Try.prog 31 #[.agg #[.string a0_0, .string a0_1]] w fun e w' => e = .returned (.bool r) ∧ Below w.heap.size w w' := by
  have hu26 := Try.underlying26
  have HB := Aside0.mk (Below.refl w.heap.size w)
  have H : ((octet_Trim.f k a0_1).bind fun t310 => (if (t310.size : Int) > 128 then (some false) else ((octet_Lower.f a0_0).bind fun t311 => (if t311.toList = ([97, 99, 99, 101, 112, 116] : List UInt8) then ((safe_all.f t310 33).bind fun t312 => (some t312)) else (if t311.toList = ([97, 99, 99, 101, 112, 116, 45, 108, 97, 110, 103, 117, 97, 103, 101] : List UInt8) then (safe_Header.j0 k t310 t311 (t311.toList == ([97, 99, 99, 101, 112, 116, 45, 108, 97, 110, 103, 117, 97, 103, 101] : List UInt8))) else (safe_Header.j0 k t310 t311 (t311.toList == ([99, 111, 110, 116, 101, 110, 116, 45, 108, 97, 110, 103, 117, 97, 103, 101] : List UInt8)))))))) = some r := h
  clear h
  replace H := Option.bind_eq_some_iff.mp H
  obtain ⟨t310, A20, H⟩ := H
  replace H : (if (t310.size : Int) > 128 then (some false) else ((octet_Lower.f a0_0).bind fun t311 => (if t311.toList = ([97, 99, 99, 101, 112, 116] : List UInt8) then ((safe_all.f t310 33).bind fun t312 => (some t312)) else (if t311.toList = ([97, 99, 99, 101, 112, 116, 45, 108, 97, 110, 103, 117, 97, 103, 101] : List UInt8) then (safe_Header.j0 k t310 t311 (t311.toList == ([97, 99, 99, 101, 112, 116, 45, 108, 97, 110, 103, 117, 97, 103, 101] : List UInt8))) else (safe_Header.j0 k t310 t311 (t311.toList == ([99, 111, 110, 116, 101, 110, 116, 45, 108, 97, 110, 103, 117, 97, 103, 101] : List UInt8))))))) = some r := H
  have A2 := Aside0.mk A20
  clear A20
  by_cases c3 : (t310.size : Int) > 128
  · rw [if_pos c3] at H
    have c3b0 : decide (128 < (t310.size : Int)) = true := decide_eq_true c3
    have c3b1 : decide (128 < t310.size) = true := decide_eq_true (by omega)
    clear c3
    obtain rfl := Option.some.inj H
    go_enter Try.func31, Try.ntmps31
    go_wp2_with (first | ((with_reducible refine gate_dst (N := 1) rfl ?_); refine box_event ?hg (N := 1) ?hd (cs := #[.string a0_0, .string a0_1]) (t := 26) ?hr ?_; (case hd => rfl); (case hg => rfl); (case hr => first | (go_simp; done) | (go_simp; rfl)); intro gb309 hg w4 hbox hb; have n0_ := Aside0.mk (below_step (by repeat (first | (with_reducible first | exact HB.out | apply below_alloc | apply pw_below_drewN | apply below_drew1) | exact HB.out)) hb); have n1_ := Aside0.mk (hbox); have n2_ := Aside0.mk ((by rw [hg]; exact (below_size (by repeat (first | (with_reducible first | exact HB.out | apply below_alloc | apply pw_below_drewN | apply below_drew1) | exact HB.out))) : w.heap.size ≤ gb309)); have n3_ := Aside0.mk ((by rw [hg]; exact (below_size (by repeat (first | (with_reducible first | exact HB.out | apply below_alloc | apply pw_below_drewN | apply below_drew1) | exact HB.out))) : w.heap.size ≤ gb309)); clear HB; have HB := n0_; have BK309 := n1_; have GW309 := n2_; have GE309 := n3_; clear n0_ n1_ n2_ n3_; clear hb hbox hg; have hcz5_0 : w4.cell? ⟨gb309, 0, none⟩ = some (.string a0_0) := (blk_cell BK309.out 0).trans rfl; have hcz5_1 : w4.cell? ⟨gb309, 1, none⟩ = some (.string a0_1) := (blk_cell BK309.out 1).trans rfl; have hfz5_0 := blk_frozen BK309.out 0; have hfz5_1 := blk_frozen BK309.out 1) | ((with_reducible refine gate_callee (f := 18) rfl ?_); refine goesL_ (some 6) rfl rfl Try.func18 (by kernel_rfl) rfl #[.string a0_1] rfl (by (try simp only [List.map_toArray, List.map_cons, List.map_nil]); first | done | rfl | (simp only [List.length_drop, List.length_take]; rfl)) ?_; (with_reducible refine (octet_Trim.calls k a0_1 t310 _ A2.out).mono ?_); rintro e w' ⟨rfl, ⟨nd, rfl⟩⟩; refine ⟨_, rfl, ?_⟩))
    go_ret
    exact ⟨by first | rfl | (simp [errW_none, errW_some] <;> rfl) | (simp [*, errW_none, errW_some] <;> rfl), by repeat (first | (with_reducible first | exact HB.out | apply below_alloc | apply pw_below_drewN | apply below_drew1 | refine below_set ?_ GE309.out) | exact HB.out)⟩
  · rw [if_neg c3] at H
    have c3b0 : decide (128 < (t310.size : Int)) = false := decide_eq_false c3
    have c3b1 : decide (128 < t310.size) = false := decide_eq_false (by omega)
    clear c3
    replace H := Option.bind_eq_some_iff.mp H
    obtain ⟨t311, A60, H⟩ := H
    replace H : (if t311.toList = ([97, 99, 99, 101, 112, 116] : List UInt8) then ((safe_all.f t310 33).bind fun t312 => (some t312)) else (if t311.toList = ([97, 99, 99, 101, 112, 116, 45, 108, 97, 110, 103, 117, 97, 103, 101] : List UInt8) then (safe_Header.j0 k t310 t311 (t311.toList == ([97, 99, 99, 101, 112, 116, 45, 108, 97, 110, 103, 117, 97, 103, 101] : List UInt8))) else (safe_Header.j0 k t310 t311 (t311.toList == ([99, 111, 110, 116, 101, 110, 116, 45, 108, 97, 110, 103, 117, 97, 103, 101] : List UInt8))))) = some r := H
    have A6 := Aside0.mk A60
    clear A60
    by_cases c7 : t311.toList = ([97, 99, 99, 101, 112, 116] : List UInt8)
    · rw [if_pos c7] at H
      have c7b0 : (t311.toList == ([97, 99, 99, 101, 112, 116] : List UInt8)) = true := beq_iff_eq.mpr c7
      have c7b1 : (t311.toList != ([97, 99, 99, 101, 112, 116] : List UInt8)) = false := bne_eq_false_iff_eq.mpr c7
      clear c7
      replace H := Option.bind_eq_some_iff.mp H
      obtain ⟨t312, A80, H⟩ := H
      replace H : (some t312) = some r := H
      have A8 := Aside0.mk A80
      clear A80
      obtain rfl := Option.some.inj H
      go_enter Try.func31, Try.ntmps31
      go_wp2_with (first | ((with_reducible refine gate_dst (N := 1) rfl ?_); refine box_event ?hg (N := 1) ?hd (cs := #[.string a0_0, .string a0_1]) (t := 26) ?hr ?_; (case hd => rfl); (case hg => rfl); (case hr => first | (go_simp; done) | (go_simp; rfl)); intro gb309 hg w9 hbox hb; have n0_ := Aside0.mk (below_step (by repeat (first | (with_reducible first | exact HB.out | apply below_alloc | apply pw_below_drewN | apply below_drew1) | exact HB.out)) hb); have n1_ := Aside0.mk (hbox); have n2_ := Aside0.mk ((by rw [hg]; exact (below_size (by repeat (first | (with_reducible first | exact HB.out | apply below_alloc | apply pw_below_drewN | apply below_drew1) | exact HB.out))) : w.heap.size ≤ gb309)); have n3_ := Aside0.mk ((by rw [hg]; exact (below_size (by repeat (first | (with_reducible first | exact HB.out | apply below_alloc | apply pw_below_drewN | apply below_drew1) | exact HB.out))) : w.heap.size ≤ gb309)); clear HB; have HB := n0_; have BK309 := n1_; have GW309 := n2_; have GE309 := n3_; clear n0_ n1_ n2_ n3_; clear hb hbox hg; have hcz10_0 : w9.cell? ⟨gb309, 0, none⟩ = some (.string a0_0) := (blk_cell BK309.out 0).trans rfl; have hcz10_1 : w9.cell? ⟨gb309, 1, none⟩ = some (.string a0_1) := (blk_cell BK309.out 1).trans rfl; have hfz10_0 := blk_frozen BK309.out 0; have hfz10_1 := blk_frozen BK309.out 1) | ((with_reducible refine gate_callee (f := 18) rfl ?_); refine goesL_ (some 6) rfl rfl Try.func18 (by kernel_rfl) rfl #[.string a0_1] rfl (by (try simp only [List.map_toArray, List.map_cons, List.map_nil]); first | done | rfl | (simp only [List.length_drop, List.length_take]; rfl)) ?_; (with_reducible refine (octet_Trim.calls k a0_1 t310 _ A2.out).mono ?_); rintro e w' ⟨rfl, ⟨nd, rfl⟩⟩; refine ⟨_, rfl, ?_⟩) | ((with_reducible refine gate_callee (f := 37) rfl ?_); refine goesL_ (some 12) rfl rfl Try.func37 (by kernel_rfl) rfl #[.string a0_0] rfl (by (try simp only [List.map_toArray, List.map_cons, List.map_nil]); first | done | rfl | (simp only [List.length_drop, List.length_take]; rfl)) ?_; (with_reducible refine (octet_Lower.calls a0_0 t311 _ A6.out).mono ?_); rintro e w11 ⟨rfl, hb⟩; refine ⟨_, rfl, ?_⟩; have n0_ := Aside0.mk (blk_below (g := gb309) (o := .cells #[.string a0_0, .string a0_1] 26 (0, 0)) (by (with_reducible repeat (first | refine blk_drewN ?_ _ | refine blk_drew ?_ | refine blk_alloc ?_ _)); exact BK309.out) hb); have n1_ := Aside0.mk (below_step (by repeat (first | (with_reducible first | exact HB.out | apply below_alloc | apply pw_below_drewN | apply below_drew1 | refine below_set ?_ GE309.out) | exact HB.out)) hb); clear BK309; clear HB; have BK309 := n0_; have HB := n1_; clear n0_ n1_; (try clear hb); (try clear hb2); (try clear hk); (try clear hi)) | ((with_reducible refine gate_callee (f := 59) rfl ?_); refine goesL_ (some 16) rfl rfl Try.func59 (by kernel_rfl) rfl #[.string t310, .func (.func 33) #[] #[]] rfl (by (try simp only [List.map_toArray, List.map_cons, List.map_nil]); first | done | rfl | (simp only [List.length_drop, List.length_take]; rfl)) ?_; (with_reducible refine (safe_all.calls t310 33 t312 _ A8.out).mono ?_); rintro e w' ⟨rfl, ⟨nd, rfl⟩⟩; refine ⟨_, rfl, ?_⟩))
      go_ret
      exact ⟨by first | rfl | (simp [errW_none, errW_some] <;> rfl) | (simp [*, errW_none, errW_some] <;> rfl), by repeat (first | (with_reducible first | exact HB.out | apply below_alloc | apply pw_below_drewN | apply below_drew1 | refine below_set ?_ GE309.out) | exact HB.out)⟩
    · rw [if_neg c7] at H
      have c7b0 : (t311.toList == ([97, 99, 99, 101, 112, 116] : List UInt8)) = false := beq_eq_false_iff_ne.mpr c7
      have c7b1 : (t311.toList != ([97, 99, 99, 101, 112, 116] : List UInt8)) = true := bne_iff_ne.mpr c7
      have HC12 := Aside0.mk H
      clear H
      go_enter Try.func31, Try.ntmps31
      go_upto_if 17 with (first | ((with_reducible refine gate_dst (N := 1) rfl ?_); refine box_event ?hg (N := 1) ?hd (cs := #[.string a0_0, .string a0_1]) (t := 26) ?hr ?_; (case hd => rfl); (case hg => rfl); (case hr => first | (go_simp; done) | (go_simp; rfl)); intro gb309 hg w13 hbox hb; have n0_ := Aside0.mk (below_step (by repeat (first | (with_reducible first | exact HB.out | apply below_alloc | apply pw_below_drewN | apply below_drew1) | exact HB.out)) hb); have n1_ := Aside0.mk (hbox); have n2_ := Aside0.mk ((by rw [hg]; exact (below_size (by repeat (first | (with_reducible first | exact HB.out | apply below_alloc | apply pw_below_drewN | apply below_drew1) | exact HB.out))) : w.heap.size ≤ gb309)); have n3_ := Aside0.mk ((by rw [hg]; exact (below_size (by repeat (first | (with_reducible first | exact HB.out | apply below_alloc | apply pw_below_drewN | apply below_drew1) | exact HB.out))) : w.heap.size ≤ gb309)); clear HB; have HB := n0_; have BK309 := n1_; have GW309 := n2_; have GE309 := n3_; clear n0_ n1_ n2_ n3_; clear hb hbox hg; have hcz14_0 : w13.cell? ⟨gb309, 0, none⟩ = some (.string a0_0) := (blk_cell BK309.out 0).trans rfl; have hcz14_1 : w13.cell? ⟨gb309, 1, none⟩ = some (.string a0_1) := (blk_cell BK309.out 1).trans rfl; have hfz14_0 := blk_frozen BK309.out 0; have hfz14_1 := blk_frozen BK309.out 1) | ((with_reducible refine gate_callee (f := 18) rfl ?_); refine goesL_ (some 6) rfl rfl Try.func18 (by kernel_rfl) rfl #[.string a0_1] rfl (by (try simp only [List.map_toArray, List.map_cons, List.map_nil]); first | done | rfl | (simp only [List.length_drop, List.length_take]; rfl)) ?_; (with_reducible refine (octet_Trim.calls k a0_1 t310 _ A2.out).mono ?_); rintro e w' ⟨rfl, ⟨nd, rfl⟩⟩; refine ⟨_, rfl, ?_⟩) | ((with_reducible refine gate_callee (f := 37) rfl ?_); refine goesL_ (some 12) rfl rfl Try.func37 (by kernel_rfl) rfl #[.string a0_0] rfl (by (try simp only [List.map_toArray, List.map_cons, List.map_nil]); first | done | rfl | (simp only [List.length_drop, List.length_take]; rfl)) ?_; (with_reducible refine (octet_Lower.calls a0_0 t311 _ A6.out).mono ?_); rintro e w15 ⟨rfl, hb⟩; refine ⟨_, rfl, ?_⟩; have n0_ := Aside0.mk (blk_below (g := gb309) (o := .cells #[.string a0_0, .string a0_1] 26 (0, 0)) (by (with_reducible repeat (first | refine blk_drewN ?_ _ | refine blk_drew ?_ | refine blk_alloc ?_ _)); exact BK309.out) hb); have n1_ := Aside0.mk (below_step (by repeat (first | (with_reducible first | exact HB.out | apply below_alloc | apply pw_below_drewN | apply below_drew1 | refine below_set ?_ GE309.out) | exact HB.out)) hb); clear BK309; clear HB; have BK309 := n0_; have HB := n1_; clear n0_ n1_; (try clear hb); (try clear hb2); (try clear hk); (try clear hi)))
      (try simp only [Act.put, List.setIfInBounds_toArray, List.set_cons_zero, List.set_cons_succ])
      go_cut [17] (fun v17 wc => ∃ (kq : Nat) (x17_11 : Bool), v17 = .bool x17_11 ∧ Aside0 (safe_Header.j0 kq t310 t311 x17_11 = some r) ∧ Aside0 (kq ≤ k) ∧ Aside0 (wc.heap[gb309]? = some (.cells #[.string a0_0, .string a0_1] 26 (0, 0))) ∧ Aside0 (Below w.heap.size w wc))
      case first =>
        have H := HC12.out
        clear HC12
        by_cases c16 : t311.toList = ([97, 99, 99, 101, 112, 116, 45, 108, 97, 110, 103, 117, 97, 103, 101] : List UInt8)
        · rw [if_pos c16] at H
          have c16b0 : (t311.toList == ([97, 99, 99, 101, 112, 116, 45, 108, 97, 110, 103, 117, 97, 103, 101] : List UInt8)) = true := beq_iff_eq.mpr c16
          have c16b1 : (t311.toList != ([97, 99, 99, 101, 112, 116, 45, 108, 97, 110, 103, 117, 97, 103, 101] : List UInt8)) = false := bne_eq_false_iff_eq.mpr c16
          clear c16
          (first | rw [c16b0] | (simp only [i64_w, i32_w]; rw [c16b0]) | skip)
          have H' := Aside0.mk H
          clear H
          go_wp2
          go_meet
          case rel => exact ⟨_, ((t311.toList == ([97, 99, 99, 101, 112, 116, 45, 108, 97, 110, 103, 117, 97, 103, 101] : List UInt8))), (by first | rfl | (simp; done) | (simp [*]; done)), H', ⟨by first | omega | exact Nat.le_refl _⟩, ⟨by (with_reducible repeat (first | refine blk_drewN ?_ _ | refine blk_drew ?_ | refine blk_alloc ?_ _)); exact BK309.out⟩, ⟨by repeat (first | (with_reducible first | exact HB.out | apply below_alloc | apply pw_below_drewN | apply below_drew1 | refine below_set ?_ GE309.out) | exact HB.out)⟩⟩
        · rw [if_neg c16] at H
          have c16b0 : (t311.toList == ([97, 99, 99, 101, 112, 116, 45, 108, 97, 110, 103, 117, 97, 103, 101] : List UInt8)) = false := beq_eq_false_iff_ne.mpr c16
          have c16b1 : (t311.toList != ([97, 99, 99, 101, 112, 116, 45, 108, 97, 110, 103, 117, 97, 103, 101] : List UInt8)) = true := bne_iff_ne.mpr c16
          (first | rw [c16b0] | (simp only [i64_w, i32_w]; rw [c16b0]) | skip)
          have H' := Aside0.mk H
          clear H
          go_wp2
          go_meet
          case rel => exact ⟨_, ((t311.toList == ([99, 111, 110, 116, 101, 110, 116, 45, 108, 97, 110, 103, 117, 97, 103, 101] : List UInt8))), (by first | rfl | (simp; done) | (simp [*]; done)), H', ⟨by first | omega | exact Nat.le_refl _⟩, ⟨by (with_reducible repeat (first | refine blk_drewN ?_ _ | refine blk_drew ?_ | refine blk_alloc ?_ _)); exact BK309.out⟩, ⟨by repeat (first | (with_reducible first | exact HB.out | apply below_alloc | apply pw_below_drewN | apply below_drew1 | refine below_set ?_ GE309.out) | exact HB.out)⟩⟩
      case rest =>
        clear HC12
        try clear c1
        try clear p2
        try clear c3
        try clear c3b0
        try clear c3b1
        try clear c5
        try clear c7
        try clear c7b0
        try clear c7b1
        try clear c16
        try clear c16b0
        try clear c16b1
        try clear hcz10_0
        try clear hcz10_1
        try clear hcz14_0
        try clear hcz14_1
        try clear hcz5_0
        try clear hcz5_1
        try clear hfz10_0
        try clear hfz10_1
        try clear hfz14_0
        try clear hfz14_1
        try clear hfz5_0
        try clear hfz5_1
        obtain ⟨kq, x17_11, rfl, HA, HJ11, BK309, HB⟩ := hcut
        cases kq with
        | zero => exact absurd HA.out (by simp [safe_Header.j0])
        | succ kj11 =>
          have H := HA.out
          clear HA
          simp only [safe_Header.j0] at H
          by_cases c17 : x17_11 = true
          · subst c17
            have H1 : ((safe_all.f t310 60).bind fun t313 => (some t313)) = some r := by rw [if_pos rfl] at H; exact H
            clear H
            have H := H1
            clear H1
            replace H := Option.bind_eq_some_iff.mp H
            obtain ⟨t313, A180, H⟩ := H
            replace H : (some t313) = some r := H
            have A18 := Aside0.mk A180
            clear A180
            obtain rfl := Option.some.inj H
            go_wp2_with (first | ((with_reducible refine gate_callee (f := 59) rfl ?_); refine goesL_ (some 21) rfl rfl Try.func59 (by kernel_rfl) rfl #[.string t310, .func (.func 60) #[] #[]] rfl (by (try simp only [List.map_toArray, List.map_cons, List.map_nil]); first | done | rfl | (simp only [List.length_drop, List.length_take]; rfl)) ?_; (with_reducible refine (safe_all.calls t310 60 t313 _ A18.out).mono ?_); rintro e w' ⟨rfl, ⟨nd, rfl⟩⟩; refine ⟨_, rfl, ?_⟩))
            go_ret
            exact ⟨by first | rfl | (simp [errW_none, errW_some] <;> rfl) | (simp [*, errW_none, errW_some] <;> rfl), by repeat (first | (with_reducible first | exact HB.out | apply below_alloc | apply pw_below_drewN | apply below_drew1 | refine below_set ?_ GE309.out) | exact HB.out)⟩
          · replace c17 := Bool.eq_false_iff.mpr c17
            subst c17
            have H1 : (if t311.toList = ([99, 111, 110, 116, 101, 110, 116, 45, 116, 121, 112, 101] : List UInt8) then ((safe_all.f t310 33).bind fun t314 => (if t314 = true then ((safe_isForm.f kj11 t310).bind fun t315 => (some t315)) else (some false))) else (if t311.toList = ([114, 97, 110, 103, 101] : List UInt8) then ((safe_Range.f kj11 t310).bind fun t316 => (some t316)) else (some false))) = some r := by rw [if_neg (show ¬ (false = true) by decide)] at H; exact H
            clear H
            have H := H1
            clear H1
            by_cases c19 : t311.toList = ([99, 111, 110, 116, 101, 110, 116, 45, 116, 121, 112, 101] : List UInt8)
            · rw [if_pos c19] at H
              have c19b0 : (t311.toList == ([99, 111, 110, 116, 101, 110, 116, 45, 116, 121, 112, 101] : List UInt8)) = true := beq_iff_eq.mpr c19
              have c19b1 : (t311.toList != ([99, 111, 110, 116, 101, 110, 116, 45, 116, 121, 112, 101] : List UInt8)) = false := bne_eq_false_iff_eq.mpr c19
              clear c19
              replace H := Option.bind_eq_some_iff.mp H
              obtain ⟨t314, A200, H⟩ := H
              replace H : (if t314 = true then ((safe_isForm.f kj11 t310).bind fun t315 => (some t315)) else (some false)) = some r := H
              have A20 := Aside0.mk A200
              clear A200
              by_cases c21 : t314 = true
              · subst c21
                have H1 : ((safe_isForm.f kj11 t310).bind fun t315 => (some t315)) = some r := by rw [if_pos rfl] at H; exact H
                clear H
                have H := H1
                clear H1
                replace H := Option.bind_eq_some_iff.mp H
                obtain ⟨t315, A220, H⟩ := H
                replace H : (some t315) = some r := H
                have A22 := Aside0.mk A220
                clear A220
                obtain rfl := Option.some.inj H
                go_wp2_with (first | ((with_reducible refine gate_callee (f := 59) rfl ?_); refine goesL_ (some 25) rfl rfl Try.func59 (by kernel_rfl) rfl #[.string t310, .func (.func 33) #[] #[]] rfl (by (try simp only [List.map_toArray, List.map_cons, List.map_nil]); first | done | rfl | (simp only [List.length_drop, List.length_take]; rfl)) ?_; (with_reducible refine (safe_all.calls t310 33 true _ A20.out).mono ?_); rintro e w' ⟨rfl, ⟨nd, rfl⟩⟩; refine ⟨_, rfl, ?_⟩) | (go_at_call 61; (with_reducible refine (safe_isForm.calls kj11 t310 t315 _ A22.out).mono ?_); rintro e w23 ⟨rfl, hb⟩; have n0_ := Aside0.mk (blk_below (g := gb309) (o := .cells #[.string a0_0, .string a0_1] 26 (0, 0)) (by (with_reducible repeat (first | refine blk_drewN ?_ _ | refine blk_drew ?_ | refine blk_alloc ?_ _)); exact BK309.out) hb); have n1_ := Aside0.mk (below_step (by repeat (first | (with_reducible first | exact HB.out | apply below_alloc | apply pw_below_drewN | apply below_drew1 | refine below_set ?_ GE309.out) | exact HB.out)) hb); clear BK309; clear HB; have BK309 := n0_; have HB := n1_; clear n0_ n1_; (try clear hb); (try clear hb2); (try clear hk); (try clear hi)))
                go_ret
                exact ⟨by first | rfl | (simp [errW_none, errW_some] <;> rfl) | (simp [*, errW_none, errW_some] <;> rfl), by repeat (first | (with_reducible first | exact HB.out | apply below_alloc | apply pw_below_drewN | apply below_drew1 | refine below_set ?_ GE309.out) | exact HB.out)⟩
              · replace c21 := Bool.eq_false_iff.mpr c21
                subst c21
                have H1 : (some false) = some r := by rw [if_neg (show ¬ (false = true) by decide)] at H; exact H
                clear H
                have H := H1
                clear H1
                obtain rfl := Option.some.inj H
                go_wp2_with (first | ((with_reducible refine gate_callee (f := 59) rfl ?_); refine goesL_ (some 25) rfl rfl Try.func59 (by kernel_rfl) rfl #[.string t310, .func (.func 33) #[] #[]] rfl (by (try simp only [List.map_toArray, List.map_cons, List.map_nil]); first | done | rfl | (simp only [List.length_drop, List.length_take]; rfl)) ?_; (with_reducible refine (safe_all.calls t310 33 false _ A20.out).mono ?_); rintro e w' ⟨rfl, ⟨nd, rfl⟩⟩; refine ⟨_, rfl, ?_⟩))
                go_ret
                exact ⟨by first | rfl | (simp [errW_none, errW_some] <;> rfl) | (simp [*, errW_none, errW_some] <;> rfl), by repeat (first | (with_reducible first | exact HB.out | apply below_alloc | apply pw_below_drewN | apply below_drew1 | refine below_set ?_ GE309.out) | exact HB.out)⟩
            · rw [if_neg c19] at H
              have c19b0 : (t311.toList == ([99, 111, 110, 116, 101, 110, 116, 45, 116, 121, 112, 101] : List UInt8)) = false := beq_eq_false_iff_ne.mpr c19
              have c19b1 : (t311.toList != ([99, 111, 110, 116, 101, 110, 116, 45, 116, 121, 112, 101] : List UInt8)) = true := bne_iff_ne.mpr c19
              by_cases c24 : t311.toList = ([114, 97, 110, 103, 101] : List UInt8)
              · rw [if_pos c24] at H
                have c24b0 : (t311.toList == ([114, 97, 110, 103, 101] : List UInt8)) = true := beq_iff_eq.mpr c24
                have c24b1 : (t311.toList != ([114, 97, 110, 103, 101] : List UInt8)) = false := bne_eq_false_iff_eq.mpr c24
                clear c24
                replace H := Option.bind_eq_some_iff.mp H
                obtain ⟨t316, A250, H⟩ := H
                replace H : (some t316) = some r := H
                have A25 := Aside0.mk A250
                clear A250
                obtain rfl := Option.some.inj H
                go_wp2_with (first | ((with_reducible refine gate_callee (f := 30) rfl ?_); refine goesL_ (some 33) rfl rfl Try.func30 (by kernel_rfl) rfl #[.string t310] rfl (by (try simp only [List.map_toArray, List.map_cons, List.map_nil]); first | done | rfl | (simp only [List.length_drop, List.length_take]; rfl)) ?_; (with_reducible refine (safe_Range.calls kj11 t310 t316 _ A25.out).mono ?_); rintro e w' ⟨rfl, ⟨nd, rfl⟩⟩; refine ⟨_, rfl, ?_⟩))
                go_ret
                exact ⟨by first | rfl | (simp [errW_none, errW_some] <;> rfl) | (simp [*, errW_none, errW_some] <;> rfl), by repeat (first | (with_reducible first | exact HB.out | apply below_alloc | apply pw_below_drewN | apply below_drew1 | refine below_set ?_ GE309.out) | exact HB.out)⟩
              · rw [if_neg c24] at H
                have c24b0 : (t311.toList == ([114, 97, 110, 103, 101] : List UInt8)) = false := beq_eq_false_iff_ne.mpr c24
                have c24b1 : (t311.toList != ([114, 97, 110, 103, 101] : List UInt8)) = true := bne_iff_ne.mpr c24
                obtain rfl := Option.some.inj H
                go_wp2
                go_ret
                exact ⟨by first | rfl | (simp [errW_none, errW_some] <;> rfl) | (simp [*, errW_none, errW_some] <;> rfl), by repeat (first | (with_reducible first | exact HB.out | apply below_alloc | apply pw_below_drewN | apply below_drew1 | refine below_set ?_ GE309.out) | exact HB.out)⟩

/-! ### lockkeeperlaw7_awake: function 32 -/
def lockkeeperlaw7_awake.f (k : Nat)  : Option (Bool) := (safe_Essence.f k (⟨#[32, 84, 101, 120, 116, 47, 80, 108, 97, 105, 110, 32, 59, 120]⟩ : ByteArray)).bind fun bt317 => (if bt317.2 = true then (if bt317.1.toList = ([116, 101, 120, 116, 47, 112, 108, 97, 105, 110] : List UInt8) then ((safe_Range.f k (⟨#[98, 121, 116, 101, 115, 61, 53, 45]⟩ : ByteArray)).bind fun t319 => (if t319 = true then ((safe_Range.f k (⟨#[98, 121, 116, 101, 115, 61, 53, 45, 52]⟩ : ByteArray)).bind fun t320 => (if t320 = true then (some false) else ((safe_Range.f k (⟨#[98, 121, 116, 101, 115, 61, 45, 52]⟩ : ByteArray)).bind fun t321 => (if t321 = true then (some false) else ((safe_Header.f k (⟨#[120]⟩ : ByteArray) (⟨#[]⟩ : ByteArray)).bind fun t322 => (some (!t322))))))) else (some false))) else (some false)) else (some false))
theorem lockkeeperlaw7_awake.mono : ∀ k, LeO (lockkeeperlaw7_awake.f k ) (lockkeeperlaw7_awake.f (k + 1) ) := by
  intro  k
  unfold lockkeeperlaw7_awake.f
  repeat' first
      | (with_reducible exact safe_Essence.mono _ _)
      | (with_reducible exact safe_Header.mono _ _ _)
      | (with_reducible exact safe_Range.mono _ _)
      | (with_reducible exact LeO.refl _)
      | (with_reducible exact LeO.none _)
      | (with_reducible refine LeO.ite ?_ ?_)
      | (with_reducible refine LeO.bind ?_ (fun _ => ?_))
      | exact safe_Essence.mono _ _
      | exact safe_Header.mono _ _ _
      | exact safe_Range.mono _ _
      | exact LeO.none _
      | refine LeO.ite ?_ ?_
      | refine LeO.bind ?_ (fun _ => ?_)
set_option maxHeartbeats 8000000 in
set_option maxRecDepth 100000 in
theorem lockkeeperlaw7_awake.calls (k : Nat)  (r : Bool) (w : World) (h : lockkeeperlaw7_awake.f k  = some r) :
    Calls Try.prog 32 #[] w fun e w' => e = .returned (.bool r) ∧ Below w.heap.size w w' := by
  have hu26 := Try.underlying26
  have HB := Aside0.mk (Below.refl w.heap.size w)
  have H : ((safe_Essence.f k (⟨#[32, 84, 101, 120, 116, 47, 80, 108, 97, 105, 110, 32, 59, 120]⟩ : ByteArray)).bind fun bt317 => (if bt317.2 = true then (if bt317.1.toList = ([116, 101, 120, 116, 47, 112, 108, 97, 105, 110] : List UInt8) then ((safe_Range.f k (⟨#[98, 121, 116, 101, 115, 61, 53, 45]⟩ : ByteArray)).bind fun t319 => (if t319 = true then ((safe_Range.f k (⟨#[98, 121, 116, 101, 115, 61, 53, 45, 52]⟩ : ByteArray)).bind fun t320 => (if t320 = true then (some false) else ((safe_Range.f k (⟨#[98, 121, 116, 101, 115, 61, 45, 52]⟩ : ByteArray)).bind fun t321 => (if t321 = true then (some false) else ((safe_Header.f k (⟨#[120]⟩ : ByteArray) (⟨#[]⟩ : ByteArray)).bind fun t322 => (some (!t322))))))) else (some false))) else (some false)) else (some false))) = some r := h
  clear h
  replace H := Option.bind_eq_some_iff.mp H
  obtain ⟨⟨t317, t318⟩, A10, H⟩ := H
  replace H : (if t318 = true then (if t317.toList = ([116, 101, 120, 116, 47, 112, 108, 97, 105, 110] : List UInt8) then ((safe_Range.f k (⟨#[98, 121, 116, 101, 115, 61, 53, 45]⟩ : ByteArray)).bind fun t319 => (if t319 = true then ((safe_Range.f k (⟨#[98, 121, 116, 101, 115, 61, 53, 45, 52]⟩ : ByteArray)).bind fun t320 => (if t320 = true then (some false) else ((safe_Range.f k (⟨#[98, 121, 116, 101, 115, 61, 45, 52]⟩ : ByteArray)).bind fun t321 => (if t321 = true then (some false) else ((safe_Header.f k (⟨#[120]⟩ : ByteArray) (⟨#[]⟩ : ByteArray)).bind fun t322 => (some (!t322))))))) else (some false))) else (some false)) else (some false)) = some r := H
  have A1 := Aside0.mk A10
  clear A10
  by_cases c2 : t318 = true
  · subst c2
    have H1 : (if t317.toList = ([116, 101, 120, 116, 47, 112, 108, 97, 105, 110] : List UInt8) then ((safe_Range.f k (⟨#[98, 121, 116, 101, 115, 61, 53, 45]⟩ : ByteArray)).bind fun t319 => (if t319 = true then ((safe_Range.f k (⟨#[98, 121, 116, 101, 115, 61, 53, 45, 52]⟩ : ByteArray)).bind fun t320 => (if t320 = true then (some false) else ((safe_Range.f k (⟨#[98, 121, 116, 101, 115, 61, 45, 52]⟩ : ByteArray)).bind fun t321 => (if t321 = true then (some false) else ((safe_Header.f k (⟨#[120]⟩ : ByteArray) (⟨#[]⟩ : ByteArray)).bind fun t322 => (some (!t322))))))) else (some false))) else (some false)) = some r := by rw [if_pos rfl] at H; exact H
    clear H
    have H := H1
    clear H1
    by_cases c3 : t317.toList = ([116, 101, 120, 116, 47, 112, 108, 97, 105, 110] : List UInt8)
    · rw [if_pos c3] at H
      have c3b0 : (t317.toList == ([116, 101, 120, 116, 47, 112, 108, 97, 105, 110] : List UInt8)) = true := beq_iff_eq.mpr c3
      have c3b1 : (t317.toList != ([116, 101, 120, 116, 47, 112, 108, 97, 105, 110] : List UInt8)) = false := bne_eq_false_iff_eq.mpr c3
      clear c3
      replace H := Option.bind_eq_some_iff.mp H
      obtain ⟨t319, A40, H⟩ := H
      replace H : (if t319 = true then ((safe_Range.f k (⟨#[98, 121, 116, 101, 115, 61, 53, 45, 52]⟩ : ByteArray)).bind fun t320 => (if t320 = true then (some false) else ((safe_Range.f k (⟨#[98, 121, 116, 101, 115, 61, 45, 52]⟩ : ByteArray)).bind fun t321 => (if t321 = true then (some false) else ((safe_Header.f k (⟨#[120]⟩ : ByteArray) (⟨#[]⟩ : ByteArray)).bind fun t322 => (some (!t322))))))) else (some false)) = some r := H
      have A4 := Aside0.mk A40
      clear A40
      by_cases c5 : t319 = true
      · subst c5
        have H1 : ((safe_Range.f k (⟨#[98, 121, 116, 101, 115, 61, 53, 45, 52]⟩ : ByteArray)).bind fun t320 => (if t320 = true then (some false) else ((safe_Range.f k (⟨#[98, 121, 116, 101, 115, 61, 45, 52]⟩ : ByteArray)).bind fun t321 => (if t321 = true then (some false) else ((safe_Header.f k (⟨#[120]⟩ : ByteArray) (⟨#[]⟩ : ByteArray)).bind fun t322 => (some (!t322))))))) = some r := by rw [if_pos rfl] at H; exact H
        clear H
        have H := H1
        clear H1
        replace H := Option.bind_eq_some_iff.mp H
        obtain ⟨t320, A60, H⟩ := H
        replace H : (if t320 = true then (some false) else ((safe_Range.f k (⟨#[98, 121, 116, 101, 115, 61, 45, 52]⟩ : ByteArray)).bind fun t321 => (if t321 = true then (some false) else ((safe_Header.f k (⟨#[120]⟩ : ByteArray) (⟨#[]⟩ : ByteArray)).bind fun t322 => (some (!t322)))))) = some r := H
        have A6 := Aside0.mk A60
        clear A60
        by_cases c7 : t320 = true
        · subst c7
          have H1 : (some false) = some r := by rw [if_pos rfl] at H; exact H
          clear H
          have H := H1
          clear H1
          obtain rfl := Option.some.inj H
          go_enter Try.func32, Try.ntmps32
          go_wp2_with (first | ((with_reducible refine gate_callee (f := 38) rfl ?_); refine goesL_ (some 4) rfl rfl Try.func38 (by kernel_rfl) rfl #[.string (⟨#[32, 84, 101, 120, 116, 47, 80, 108, 97, 105, 110, 32, 59, 120]⟩ : ByteArray)] rfl (by (try simp only [List.map_toArray, List.map_cons, List.map_nil]); first | done | rfl | (simp only [List.length_drop, List.length_take]; rfl)) ?_; (with_reducible refine (safe_Essence.calls k (⟨#[32, 84, 101, 120, 116, 47, 80, 108, 97, 105, 110, 32, 59, 120]⟩ : ByteArray) t317 true _ A1.out).mono ?_); rintro e w8 ⟨rfl, hb⟩; refine ⟨_, rfl, ?_⟩; have n0_ := Aside0.mk (below_step (by repeat (first | (with_reducible first | exact HB.out | apply below_alloc | apply pw_below_drewN | apply below_drew1) | exact HB.out)) hb); clear HB; have HB := n0_; clear n0_; (try clear hb); (try clear hb2); (try clear hk); (try clear hi)) | (go_at_call 30; (with_reducible refine (safe_Range.calls k (⟨#[98, 121, 116, 101, 115, 61, 53, 45]⟩ : ByteArray) true _ A4.out).mono ?_); rintro e w' ⟨rfl, ⟨nd, rfl⟩⟩) | (go_at_call 30; (with_reducible refine (safe_Range.calls k (⟨#[98, 121, 116, 101, 115, 61, 53, 45, 52]⟩ : ByteArray) true _ A6.out).mono ?_); rintro e w' ⟨rfl, ⟨nd, rfl⟩⟩))
          go_ret
          exact ⟨by first | rfl | (simp [errW_none, errW_some] <;> rfl) | (simp [*, errW_none, errW_some] <;> rfl), by repeat (first | (with_reducible first | exact HB.out | apply below_alloc | apply pw_below_drewN | apply below_drew1) | exact HB.out)⟩
        · replace c7 := Bool.eq_false_iff.mpr c7
          subst c7
          have H1 : ((safe_Range.f k (⟨#[98, 121, 116, 101, 115, 61, 45, 52]⟩ : ByteArray)).bind fun t321 => (if t321 = true then (some false) else ((safe_Header.f k (⟨#[120]⟩ : ByteArray) (⟨#[]⟩ : ByteArray)).bind fun t322 => (some (!t322))))) = some r := by rw [if_neg (show ¬ (false = true) by decide)] at H; exact H
          clear H
          have H := H1
          clear H1
          replace H := Option.bind_eq_some_iff.mp H
          obtain ⟨t321, A90, H⟩ := H
          replace H : (if t321 = true then (some false) else ((safe_Header.f k (⟨#[120]⟩ : ByteArray) (⟨#[]⟩ : ByteArray)).bind fun t322 => (some (!t322)))) = some r := H
          have A9 := Aside0.mk A90
          clear A90
          by_cases c10 : t321 = true
          · subst c10
            have H1 : (some false) = some r := by rw [if_pos rfl] at H; exact H
            clear H
            have H := H1
            clear H1
            obtain rfl := Option.some.inj H
            go_enter Try.func32, Try.ntmps32
            go_wp2_with (first | ((with_reducible refine gate_callee (f := 38) rfl ?_); refine goesL_ (some 4) rfl rfl Try.func38 (by kernel_rfl) rfl #[.string (⟨#[32, 84, 101, 120, 116, 47, 80, 108, 97, 105, 110, 32, 59, 120]⟩ : ByteArray)] rfl (by (try simp only [List.map_toArray, List.map_cons, List.map_nil]); first | done | rfl | (simp only [List.length_drop, List.length_take]; rfl)) ?_; (with_reducible refine (safe_Essence.calls k (⟨#[32, 84, 101, 120, 116, 47, 80, 108, 97, 105, 110, 32, 59, 120]⟩ : ByteArray) t317 true _ A1.out).mono ?_); rintro e w11 ⟨rfl, hb⟩; refine ⟨_, rfl, ?_⟩; have n0_ := Aside0.mk (below_step (by repeat (first | (with_reducible first | exact HB.out | apply below_alloc | apply pw_below_drewN | apply below_drew1) | exact HB.out)) hb); clear HB; have HB := n0_; clear n0_; (try clear hb); (try clear hb2); (try clear hk); (try clear hi)) | (go_at_call 30; (with_reducible refine (safe_Range.calls k (⟨#[98, 121, 116, 101, 115, 61, 53, 45]⟩ : ByteArray) true _ A4.out).mono ?_); rintro e w' ⟨rfl, ⟨nd, rfl⟩⟩) | (go_at_call 30; (with_reducible refine (safe_Range.calls k (⟨#[98, 121, 116, 101, 115, 61, 53, 45, 52]⟩ : ByteArray) false _ A6.out).mono ?_); rintro e w' ⟨rfl, ⟨nd, rfl⟩⟩) | (go_at_call 30; (with_reducible refine (safe_Range.calls k (⟨#[98, 121, 116, 101, 115, 61, 45, 52]⟩ : ByteArray) true _ A9.out).mono ?_); rintro e w' ⟨rfl, ⟨nd, rfl⟩⟩))
            go_ret
            exact ⟨by first | rfl | (simp [errW_none, errW_some] <;> rfl) | (simp [*, errW_none, errW_some] <;> rfl), by repeat (first | (with_reducible first | exact HB.out | apply below_alloc | apply pw_below_drewN | apply below_drew1) | exact HB.out)⟩
          · replace c10 := Bool.eq_false_iff.mpr c10
            subst c10
            have H1 : ((safe_Header.f k (⟨#[120]⟩ : ByteArray) (⟨#[]⟩ : ByteArray)).bind fun t322 => (some (!t322))) = some r := by rw [if_neg (show ¬ (false = true) by decide)] at H; exact H
            clear H
            have H := H1
            clear H1
            replace H := Option.bind_eq_some_iff.mp H
            obtain ⟨t322, A120, H⟩ := H
            replace H : (some (!t322)) = some r := H
            have A12 := Aside0.mk A120
            clear A120
            obtain rfl := Option.some.inj H
            go_enter Try.func32, Try.ntmps32
            go_wp2_with (first | ((with_reducible refine gate_callee (f := 38) rfl ?_); refine goesL_ (some 4) rfl rfl Try.func38 (by kernel_rfl) rfl #[.string (⟨#[32, 84, 101, 120, 116, 47, 80, 108, 97, 105, 110, 32, 59, 120]⟩ : ByteArray)] rfl (by (try simp only [List.map_toArray, List.map_cons, List.map_nil]); first | done | rfl | (simp only [List.length_drop, List.length_take]; rfl)) ?_; (with_reducible refine (safe_Essence.calls k (⟨#[32, 84, 101, 120, 116, 47, 80, 108, 97, 105, 110, 32, 59, 120]⟩ : ByteArray) t317 true _ A1.out).mono ?_); rintro e w13 ⟨rfl, hb⟩; refine ⟨_, rfl, ?_⟩; have n0_ := Aside0.mk (below_step (by repeat (first | (with_reducible first | exact HB.out | apply below_alloc | apply pw_below_drewN | apply below_drew1) | exact HB.out)) hb); clear HB; have HB := n0_; clear n0_; (try clear hb); (try clear hb2); (try clear hk); (try clear hi)) | (go_at_call 30; (with_reducible refine (safe_Range.calls k (⟨#[98, 121, 116, 101, 115, 61, 53, 45]⟩ : ByteArray) true _ A4.out).mono ?_); rintro e w' ⟨rfl, ⟨nd, rfl⟩⟩) | (go_at_call 30; (with_reducible refine (safe_Range.calls k (⟨#[98, 121, 116, 101, 115, 61, 53, 45, 52]⟩ : ByteArray) false _ A6.out).mono ?_); rintro e w' ⟨rfl, ⟨nd, rfl⟩⟩) | (go_at_call 30; (with_reducible refine (safe_Range.calls k (⟨#[98, 121, 116, 101, 115, 61, 45, 52]⟩ : ByteArray) false _ A9.out).mono ?_); rintro e w' ⟨rfl, ⟨nd, rfl⟩⟩) | (go_at_call 31; (with_reducible refine (safe_Header.calls k (⟨#[120]⟩ : ByteArray) (⟨#[]⟩ : ByteArray) t322 _ A12.out).mono ?_); rintro e w14 ⟨rfl, hb⟩; have n0_ := Aside0.mk (below_step (by repeat (first | (with_reducible first | exact HB.out | apply below_alloc | apply pw_below_drewN | apply below_drew1) | exact HB.out)) hb); clear HB; have HB := n0_; clear n0_; (try clear hb); (try clear hb2); (try clear hk); (try clear hi)))
            go_ret
            exact ⟨by first | rfl | (simp [errW_none, errW_some] <;> rfl) | (simp [*, errW_none, errW_some] <;> rfl), by repeat (first | (with_reducible first | exact HB.out | apply below_alloc | apply pw_below_drewN | apply below_drew1) | exact HB.out)⟩
      · replace c5 := Bool.eq_false_iff.mpr c5
        subst c5
        have H1 : (some false) = some r := by rw [if_neg (show ¬ (false = true) by decide)] at H; exact H
        clear H
        have H := H1
        clear H1
        obtain rfl := Option.some.inj H
        go_enter Try.func32, Try.ntmps32
        go_wp2_with (first | ((with_reducible refine gate_callee (f := 38) rfl ?_); refine goesL_ (some 4) rfl rfl Try.func38 (by kernel_rfl) rfl #[.string (⟨#[32, 84, 101, 120, 116, 47, 80, 108, 97, 105, 110, 32, 59, 120]⟩ : ByteArray)] rfl (by (try simp only [List.map_toArray, List.map_cons, List.map_nil]); first | done | rfl | (simp only [List.length_drop, List.length_take]; rfl)) ?_; (with_reducible refine (safe_Essence.calls k (⟨#[32, 84, 101, 120, 116, 47, 80, 108, 97, 105, 110, 32, 59, 120]⟩ : ByteArray) t317 true _ A1.out).mono ?_); rintro e w15 ⟨rfl, hb⟩; refine ⟨_, rfl, ?_⟩; have n0_ := Aside0.mk (below_step (by repeat (first | (with_reducible first | exact HB.out | apply below_alloc | apply pw_below_drewN | apply below_drew1) | exact HB.out)) hb); clear HB; have HB := n0_; clear n0_; (try clear hb); (try clear hb2); (try clear hk); (try clear hi)) | (go_at_call 30; (with_reducible refine (safe_Range.calls k (⟨#[98, 121, 116, 101, 115, 61, 53, 45]⟩ : ByteArray) false _ A4.out).mono ?_); rintro e w' ⟨rfl, ⟨nd, rfl⟩⟩))
        go_ret
        exact ⟨by first | rfl | (simp [errW_none, errW_some] <;> rfl) | (simp [*, errW_none, errW_some] <;> rfl), by repeat (first | (with_reducible first | exact HB.out | apply below_alloc | apply pw_below_drewN | apply below_drew1) | exact HB.out)⟩
    · rw [if_neg c3] at H
      have c3b0 : (t317.toList == ([116, 101, 120, 116, 47, 112, 108, 97, 105, 110] : List UInt8)) = false := beq_eq_false_iff_ne.mpr c3
      have c3b1 : (t317.toList != ([116, 101, 120, 116, 47, 112, 108, 97, 105, 110] : List UInt8)) = true := bne_iff_ne.mpr c3
      obtain rfl := Option.some.inj H
      go_enter Try.func32, Try.ntmps32
      go_wp2_with (first | ((with_reducible refine gate_callee (f := 38) rfl ?_); refine goesL_ (some 4) rfl rfl Try.func38 (by kernel_rfl) rfl #[.string (⟨#[32, 84, 101, 120, 116, 47, 80, 108, 97, 105, 110, 32, 59, 120]⟩ : ByteArray)] rfl (by (try simp only [List.map_toArray, List.map_cons, List.map_nil]); first | done | rfl | (simp only [List.length_drop, List.length_take]; rfl)) ?_; (with_reducible refine (safe_Essence.calls k (⟨#[32, 84, 101, 120, 116, 47, 80, 108, 97, 105, 110, 32, 59, 120]⟩ : ByteArray) t317 true _ A1.out).mono ?_); rintro e w16 ⟨rfl, hb⟩; refine ⟨_, rfl, ?_⟩; have n0_ := Aside0.mk (below_step (by repeat (first | (with_reducible first | exact HB.out | apply below_alloc | apply pw_below_drewN | apply below_drew1) | exact HB.out)) hb); clear HB; have HB := n0_; clear n0_; (try clear hb); (try clear hb2); (try clear hk); (try clear hi)))
      go_ret
      exact ⟨by first | rfl | (simp [errW_none, errW_some] <;> rfl) | (simp [*, errW_none, errW_some] <;> rfl), by repeat (first | (with_reducible first | exact HB.out | apply below_alloc | apply pw_below_drewN | apply below_drew1) | exact HB.out)⟩
  · replace c2 := Bool.eq_false_iff.mpr c2
    subst c2
    have H1 : (some false) = some r := by rw [if_neg (show ¬ (false = true) by decide)] at H; exact H
    clear H
    have H := H1
    clear H1
    obtain rfl := Option.some.inj H
    go_enter Try.func32, Try.ntmps32
    go_wp2_with (first | ((with_reducible refine gate_callee (f := 38) rfl ?_); refine goesL_ (some 4) rfl rfl Try.func38 (by kernel_rfl) rfl #[.string (⟨#[32, 84, 101, 120, 116, 47, 80, 108, 97, 105, 110, 32, 59, 120]⟩ : ByteArray)] rfl (by (try simp only [List.map_toArray, List.map_cons, List.map_nil]); first | done | rfl | (simp only [List.length_drop, List.length_take]; rfl)) ?_; (with_reducible refine (safe_Essence.calls k (⟨#[32, 84, 101, 120, 116, 47, 80, 108, 97, 105, 110, 32, 59, 120]⟩ : ByteArray) t317 false _ A1.out).mono ?_); rintro e w17 ⟨rfl, hb⟩; refine ⟨_, rfl, ?_⟩; have n0_ := Aside0.mk (below_step (by repeat (first | (with_reducible first | exact HB.out | apply below_alloc | apply pw_below_drewN | apply below_drew1) | exact HB.out)) hb); clear HB; have HB := n0_; clear n0_; (try clear hb); (try clear hb2); (try clear hk); (try clear hi)))
    go_ret
    exact ⟨by first | rfl | (simp [errW_none, errW_some] <;> rfl) | (simp [*, errW_none, errW_some] <;> rfl), by repeat (first | (with_reducible first | exact HB.out | apply below_alloc | apply pw_below_drewN | apply below_drew1) | exact HB.out)⟩

end Go.Proofs.Ytojcceafgkdchaa.Pr
